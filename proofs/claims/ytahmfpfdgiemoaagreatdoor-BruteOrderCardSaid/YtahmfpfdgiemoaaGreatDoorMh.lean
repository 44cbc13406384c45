/-
  Own library, part 8: an abstract reading of values and a calculus over it; contracts of functions; plain lemmas.
-/
import Derived.KernelRfl
import Derived.Test.YtahmfpfdgiemoaaGreatDoorMg
set_option linter.unusedVariables false
set_option linter.unusedSimpArgs false
set_option maxRecDepth 100000
open Go renaming Program->qb
open Go.Proofs.Tryz renaming prog->qg
open List renaming getElem?_eq_some_iff->qm,mem_map->qo,getElem_mem->qs,range->qv,getElem?_eq_getElem->qy,mem_cons->qz,getElem?_append_left->qI,getElem?_set_self->qL,mem_append->qM,not_mem_nil->qN,mem_singleton->qS,take_length->qT,length_append->q8,map_append->za,mem_cons_of_mem->zc,getElem?_map->zg,mem_cons_self->zh,drop_eq_getElem_cons->zp,append_assoc->zq,length_cons->zD,getElem?_append_right->zE,getD_eq_getElem?_getD->zH,length_map->zM,append_nil->zN,mem_range->zY,map_cons->z6,take_of_length_le->yd,drop_length->yA,cons_append->yH,mem_filter->jK,take_append_drop->vA,nil_append->vD,take_succ_eq_append_getElem->vK,getElem?_cons_succ->vL,foldl_append->vM,mem_iff_getElem->uV,mem_flatMap->uW,nodup_append->u3,flatMap_cons->wO,getElem_of_mem->Qs,getElem_map->Vs,drop_eq_nil_of_le->Vv
open Go.IntKind renaming i64->qq
open Nat renaming le_refl->qt,le_trans->zK
open Bool renaming and_eq_true->qK,or_eq_true->uZ
open Int renaming mul_le_mul->jE,le_refl->vB
open Prod.mk renaming injEq->ud
namespace Go.Proofs.YtahmfpfdgiemoaaGreatDoor
open Go Go.Ev Go.Proofs Tryz
namespace QT
open YF Y9 Y10 Y1 Y2 Y14 Y15 Y16 YZ P1 P2 PA Q5 QD QE QI QJ QL QM QO QS
section
variable {ts:TS}
def ckR(ts:TS)(i:Nat):Ck:=⟨ts,i,tmsL ts ts.sT.length⟩
theorem U9(h:okTS ts){i:Nat}(g:i<=ts.sT.length):okCk (ckR ts i):=⟨h,g,by show i<=(tmsL ts ts.sT.length).length;rw[ZO ts _ (qt _)];exact g⟩
theorem qc7{c c':Ck}(g:c'.ts=c.ts)(r:∀ nm,zr c' nm=zr c nm)(t:∀ op nm,zX c' op nm=zX c op nm):∀(m:Nat) (n:Nd) (s:Scp) (inn:Bool),szN n<=m->exam c s inn n=exam c' s inn n
 | 0,n,_,_,J=>by obtain⟨op,nm,i,ks,p⟩:=n;simp[szN]at J
 |m+1,n,s,inn,J=>by
  have o:∀ k,k∈n.sD->∀(s:Scp) (inn:Bool),exam c s inn k=exam c' s inn k:=fun k o s inn=>qc7 g r t m k s inn (zW1 (yv o))
  refine qaZ rfl rfl rfl rfl (t _ _) (fun _=>?_) (by rw[g]) (r _) (by rw[g]) rfl (fun _ R=>qa2 fun k l=>o k l s true) (fun _ inn=>?_) (fun _ _ _ inn=>UN fun k l=>o k l s inn)
  .rw [Zp,Zp,g]
  .cases C:n.sD with
   |nil=>rfl
   |cons k ks =>
    have j:∀ x,x∈k :: ks->x∈n.sD:=fun x I=>by rw[C];exact I
    simp only[yk];rw[o k (j k (zh ..)) s inn];have P:∀ a,zb c ((n.name,a) :: s) inn ks=zb c' ((n.name,a) :: s) inn ks:=fun a=>UN fun x I=>o x (j x (zc _ I)) _ _
    simp only[P]
theorem qqS(h:okTS ts){i:Nat}(l:i<=ts.sT.length)(n:Nd)(s:Scp)(inn:Bool):exam (ckR ts i) s inn n=exam (mkCk ts i) s inn n:=by
 refine(qc7 (c:=mkCk ts i) (c':=ckR ts i) rfl (fun o=>rfl) (fun op o=>?_) (szN n) n s inn (qt _)).symm;unfold zX;have e:zr (ckR ts i) o=zr (mkCk ts i) o:=rfl;rw[e];cases r:zr (mkCk ts i) o with
 |none=>rfl
 |some p =>
  obtain⟨j,g⟩:=Zh (uN h l) r;have j:p<i:=j;have g:p<ts.sT.length:=g;simp only;have t:=PC.UY ts p ts.sT.length g (qt _) g;have C:=PC.UY ts p i j l g;show (yC op||(decide (op=47)&&(tmsL ts ts.sT.length).getD p false))=(yC op||(decide (op=47)&&(tmsL ts i).getD p false));rw[t,C]
theorem qqT(h:okTS ts){i:Nat}(g:i<=ts.sT.length)(env:List (tN×Int))(n:Nd):jJ (mkCk ts i) env n=if 30<=n.op then dgOf (exam (ckR ts i) (ym env) false n) else (43,n.pos):=by
 unfold jJ;rw[qqS h g]
theorem qc8(ts:TS)(h:okTS ts)(J:∀ p,p∈ts.sT->WfN p.body)(i:Nat)(o:i<=ts.sT.length)(env:List (tN×Int))(t:Yv ts.sS.length env)(j:env.length<=1000)(n:Nd)(R:WfN n)(T:depN n<=24) :
  qj qg 67 [eTS ts,aI i,lPm env,eNd n] (eDg (jJ (mkCk ts i) env n)):=by
 rw[qqT h o];have U:=h.ns;have hs:=XZ t;have a0:(ym env).length=env.length:=by
  have:=congrArg List.length (qcY env);rw[U7]at this;simpa[envV] using this.symm
 obtain⟨S,ce,_⟩:=qc6 (ckR ts i) (U9 h o) 24 n T R (ym env) hs zOm false;have C:=envU env j (fun p hp=>zW1 (t.r p hp));rw[qcY]at C;have c1:=qp8 n;have c2:=qp5 ts h J;refine qSU call67 func67 rfl ?_;refine tT c1 (.zk (qO n) .nil) ?_;by_cases g:30<=n.op
 .rw [if_pos g]
  generalize dgOf (exam (ckR ts i) (ym env) false n)=D at *
  simp[go_sem,g];refine fD [0,1,3,5,7,2,4,6,8,9,10,11,12,13,14,15] [(0,0,[]),(1,0,[]),(3,0,[]),(5,0,[]),(7,0,[]),(2,1,[0,7]),(4,0,[]),(6,1,[0,7]),(8,1,[]),(9,0,[]),(10,0,[]),(11,0,[]),(12,2,[0,1,7]),(13,2,[0,1,7]),(14,1,[]),(15,1,[])] zKr zKr zSi ?_;simp[go_sem];refine fR c2 (.zk (zo ts) .nil) ?_;refine fR C (.zk (ui env) .nil) ?_;refine tT ce (wkE (ckR ts i) false _ n) ?_;simp[go_sem,qx];rw[if_pos (ze _)];generalize I:putCells _ 0 (cRS S)=P;have l:P=cRS S:=by rw[<-I];exact pc (aI 0) _ (fun _=>false) _
  subst l;clear I;simp[go_sem];exact .hf _ (wI D)
 .rw [if_neg g]
  simp[go_sem,g];exact .hf _ (wI (43,n.pos))
theorem kl(ts:TS)(h:okTS ts)(i:∀ p,p∈ts.sT->WfN p.body)(env:List (tN×Int))(j:Yv ts.sS.length env)(g:env.length<=1000)(n:Nd)(l:WfN n)(o:depN n<=24) :
  qj qg 30 [eTS ts,lPm env,eNd n] (eDg (yE ts env n)):=by
 have c1:=qc8 ts h i ts.sT.length (qt _) env j g n l o;have e:jJ (mkCk ts ts.sT.length) env n=yE ts env n:=rfl;rw[e]at c1;generalize yE ts env n=D at *
 refine qSU call30 func30 rfl ?_;refine fR c1 (.zk (zo ts) (.zs (.zk (ui env) (.zk (qO n) .nil)))) ?_;exact .hf _ (wI D)
theorem Jd(a b:List Bool):dups (a++b)=dups a++dups b:=by simp[dups]
theorem wJ(b:Bool):dups [b]=if b=true then [(41,0)] else []:=by cases b<;>rfl
theorem Qi(l:List Bool):(dups l).length<=l.length:=by
 unfold dups;rw[zM];exact List.length_filter_le ..
theorem kn{J:Type}(g:J->J->Bool)(l:List J)(k:Nat)(h:k<l.length):(repL g l).take (k+1)=(repL g l).take k++[(l.take k).any fun y=>g l[k] y]:=by
 have i:k<(repL g l).length:=by rw[Qg];exact h
 rw[vK i];congr 2;have:=mn g l h;rw[qy i]at this;exact Option.some.inj this
theorem Wa{J:Type}(p:J->Bool)(l:List J)(k:Nat)(h:k<l.length):(l.take (k+1)).any p=((l.take k).any p||p l[k]):=by
 rw[vK h,List.any_append];simp only[List.any_cons,List.any_nil,Bool.or_false]
abbrev eS:tN×Bool->tN×Bool->Bool:=fun x y=>decide (x.1=y.1)
abbrev eF:Fld->Fld->Bool:=fun x y=>decide (x.name=y.name)&&decide (x.sS=y.sS)
abbrev eP:Pd->Pd->Bool:=fun x y=>decide (x.name=y.name)
abbrev eM:tN×Int->tN×Int->Bool:=fun x y=>decide (x.1=y.1)
abbrev eA:tN×Nd->tN×Nd->Bool:=fun x y=>decide (x.1=y.1)
theorem Qn{mu:Mu}{lo:Nat}{s x:AV}{xs ys:List Dg}{K:AV->Mu->Prop}(o:OwnF lo mu 2 s (xs.map cDg))(p:qF mu x=some (ys.map cDg))(J:xs.length+ys.length<=100000)(t:∀ av mu',OwnF lo mu' 2 av ((xs++ys).map cDg)->(∀ i,i<lo->mu'[i]?=mu[i]?)->K av mu') :
  qA qg mu #[82,82] s x K:=by
 have j:∀ l:List Dg,zi 2 (l.map cDg):=fun l r C=>by
  obtain⟨n,_,rfl⟩:=qo.1 C;exact⟨rfl,rfl⟩
 refine qA.ownF (lo:=lo) (e:=78) (sz:=2) (bt:=16) (zv := .agg [aI 0,aI 0]) (xs:=xs.map cDg) (ys:=ys.map cDg) zSi zSi zSi rfl rfl zOm zOm o p (j xs) (j ys) zSo ?_;intro av mu' h I;exact t av mu' (by rw[za];exact h) I
theorem qqU(ts:TS)(h:okTS ts)(mu:Mu):qD qg 65 [eTS ts] mu fun e m=>∃ av,e = .ret av/\OwnF mu.length m 2 av ((dups (repL eS ts.sS)++dups (repL eF ts.sA)).map cDg)/\∀ i,i<mu.length->m[i]?=mu[i]?:=by
 refine qSW call65 func65 rfl {} ?_;have a6:=h.ns;have ab:=h.nf;simp[go_sem];refine kM ts.sS.length (fun i U=>U.tm 1 = .ip (cTS ts)/\U.tm 4=aI i/\OwnF mu.length U.mu 2 (U.tm 3) ((dups ((repL eS ts.sS).take i)).map cDg)/\∀ i,i<mu.length->U.mu[i]?=mu[i]?) ?_ ?_
 .exact ⟨zSi,zSi,by simp[go_sem,dups];exact OwnF.nil (qt _),zSi⟩
 rintro i U R ⟨J,e4,C,hm⟩;have a0:(dups ((repL eS ts.sS).take i)).length<=i:=zK (Qi _) (List.length_take_le ..);generalize h3:U.tm 3=av at *
 by_cases l:i<ts.sS.length
 .have r:=kn eS ts.sS i l
  have wi:=zWk i;simp[go_sem,J,e4,l];refine kM i (fun k st2=>st2.tm 1 = .ip (cTS ts)/\st2.tm 4=aI i/\st2.tm 3=av/\st2.tm 6=aI k/\st2.tm 5=aB ((ts.sS.take k).any fun y=>eS ts.sS[i] y)/\st2.mu=U.mu) ?_ ?_
  .exact ⟨zS1 J,zS1 e4,zS1 h3,zSi,zSi,zSi⟩
  rintro k st2 hk ⟨f1,f4,f3,f6,f5,t⟩;generalize hT:(ts.sS.take k).any (fun y=>eS ts.sS[i] y)=T at *
  by_cases o:k<i
  .have p:k<ts.sS.length:=by omega
   have wk:=zWk k;have g:=Wa (fun y=>eS ts.sS[i] y) ts.sS k p;rw[hT]at g;simp[go_sem,f4,f6,o];refine cJ zKr ?_;cases T with
   |true =>
    rw[Bool.true_or]at g;simp[go_sem,f6,f5,o,wk];exact aK ⟨zS1 f1,zS1 f4,zS1 f3,zSi,by rw[g];simp[go_sem],zS1 t⟩
   |false =>
    rw[Bool.false_or]at g;by_cases I:ts.sS[k].1=ts.sS[i].1
    .have j:(ts.sS.take (k+1)).any (fun y=>eS ts.sS[i] y)=true:=by rw[g];exact decide_eq_true I.symm
     simp[go_sem,f1,f4,f6,f5,o,p,l,wk,I];exact aK ⟨zS1 f1,zS1 f4,zS1 f3,zSi,by rw[j];simp[go_sem],zS1 t⟩
    .have j:(ts.sS.take (k+1)).any (fun y=>eS ts.sS[i] y)=false:=by rw[g];exact decide_eq_false fun e=>I e.symm
     simp[go_sem,f1,f4,f6,f5,o,p,l,wk,jS I];exact aK ⟨zS1 f1,zS1 f4,zS1 f3,zSi,by rw[j];simp[go_sem],zS1 t⟩
  .have a1:k=i:=by omega
   subst a1;rw[hT]at r;cases T with
   |true =>
    simp[go_sem,f4,f3,f6,f5,t];refine Qn (ys:=[(41,0)]) C (by simp[qF]) zSo fun a7 m' a2 a3=>?_
    simp[go_sem,f4,wi];exact⟨l,aK ⟨zS1 f1,zSi,by rw[r,Jd,wJ,if_pos rfl];simpa[go_sem] using a2,by simp only[qE];exact fun i R=>(a3 i R).trans (hm i R)⟩⟩
   |false =>
    simp[go_sem,f4,f6,f5,t,wi];exact⟨l,aK ⟨zS1 f1,zSi,by rw[r,Jd,wJ,if_neg zSp,zN];simpa[go_sem,f3,t] using C,by simp only[qE];exact hm⟩⟩
 .have a4:i=ts.sS.length:=by omega
  subst a4;rw[yd (by rw[Qg];exact qt _)]at C;simp[go_sem,J,e4];generalize a8:dups (repL eS ts.sS)=a5 at *
  have ad:a5.length<=4:=by rw[<-a8];exact zK (Qi _) (by rw[Qg];exact a6)
  refine kM ts.sA.length (fun i U=>U.tm 1 = .ip (cTS ts)/\U.tm 7=aI i/\OwnF mu.length U.mu 2 (U.tm 3) ((a5++dups ((repL eF ts.sA).take i)).map cDg)/\∀ i,i<mu.length->U.mu[i]?=mu[i]?) ?_ ?_
  .exact ⟨zS1 J,zSi,by simpa[go_sem,dups,h3] using C,zVs hm⟩
  clear a0 C hm J e4 h3 l R U;rintro i U R ⟨J,e4,C,hm⟩;have a0:(dups ((repL eF ts.sA).take i)).length<=i:=zK (Qi _) (List.length_take_le ..);generalize h3:U.tm 3=a9 at *
  by_cases l:i<ts.sA.length
  .have r:=kn eF ts.sA i l
   have wi:=zWk i;simp[go_sem,J,e4,l];refine kM i (fun k st2=>st2.tm 1 = .ip (cTS ts)/\st2.tm 7=aI i/\st2.tm 3=a9/\st2.tm 9=aI k/\st2.tm 8=aB ((ts.sA.take k).any fun y=>eF ts.sA[i] y)/\st2.mu=U.mu) ?_ ?_
   .exact ⟨zS1 J,zS1 e4,zS1 h3,zSi,zSi,zSi⟩
   rintro k st2 hk ⟨f1,f4,f3,f6,f5,t⟩;generalize hT:(ts.sA.take k).any (fun y=>eF ts.sA[i] y)=T at *
   by_cases o:k<i
   .have p:k<ts.sA.length:=by omega
    have wk:=zWk k;have g:=Wa (fun y=>eF ts.sA[i] y) ts.sA k p;rw[hT]at g;have ae:=h.fl _ (qs p);have aa:=qk2 ts.sA[k].sS ts.sA[i].sS zOm;simp[go_sem,f4,f6,o];refine cJ zKr ?_;cases T with
    |true =>
     rw[Bool.true_or]at g;simp[go_sem,f6,f5,o,wk];exact aK ⟨zS1 f1,zS1 f4,zS1 f3,zSi,by rw[g];simp[go_sem],zS1 t⟩
    |false =>
     rw[Bool.false_or]at g;by_cases I:ts.sA[k].name=ts.sA[i].name
     .simp [go_sem,f1,f4,f6,f5,p,l,I]
      refine tT aa (.zk (zm _) (.zk (zm _) .nil)) ?_;by_cases P:ts.sA[k].sS=ts.sA[i].sS
      .have j:(ts.sA.take (k+1)).any (fun y=>eF ts.sA[i] y)=true:=by rw[g];simp[eF,I.symm,P.symm]
       simp[go_sem,f6,o,wk,P];exact aK ⟨zS1 f1,zS1 f4,zS1 f3,zSi,by rw[j];simp[go_sem],zS1 t⟩
      .have j:(ts.sA.take (k+1)).any (fun y=>eF ts.sA[i] y)=false:=by rw[g];simp[eF,I.symm];exact fun e=>P e.symm
       simp[go_sem,f6,o,wk,P];exact aK ⟨zS1 f1,zS1 f4,zS1 f3,zSi,by rw[j];simp[go_sem],zS1 t⟩
     .have j:(ts.sA.take (k+1)).any (fun y=>eF ts.sA[i] y)=false:=by rw[g];simp[eF];exact fun e=>absurd e.symm I
      simp[go_sem,f1,f4,f6,f5,o,p,l,wk,jS I];exact aK ⟨zS1 f1,zS1 f4,zS1 f3,zSi,by rw[j];simp[go_sem],zS1 t⟩
   .have a1:k=i:=by omega
    subst a1;rw[hT]at r;cases T with
    |true =>
     simp[go_sem,f4,f3,f6,f5,t];refine Qn (ys:=[(41,0)]) C (by simp[qF]) zSo fun a7 m' a2 a3=>?_
     simp[go_sem,f4,wi];exact⟨l,aK ⟨zS1 f1,zSi,by rw[r,Jd,wJ,if_pos rfl,<-zq];simpa[go_sem] using a2,by simp only[qE];exact fun i R=>(a3 i R).trans (hm i R)⟩⟩
    |false =>
     simp[go_sem,f4,f6,f5,t,wi];exact⟨l,aK ⟨zS1 f1,zSi,by rw[r,Jd,wJ,if_neg zSp,zN];simpa[go_sem,f3,t] using C,by simp only[qE];exact hm⟩⟩
  .have a4:i=ts.sA.length:=by omega
   subst a4;rw[yd (by rw[Qg];exact qt _)]at C;simp[go_sem,J,e4,h3];exact⟨zUs C,hm⟩
end
end QT
namespace QU
open YF Y9 Y10 Y1 Y2 Y15 Y16 YZ P1 P2 PA QD QI QK QT
theorem qqV{ts:TS}{i:Nat}(o:i<ts.sT.length):(∃ p:Nat,zr (ckR ts i) ts.sT[i].name=some p/\(ts.sT.take i).any (fun y=>eP ts.sT[i] y)=true)\/(zr (ckR ts i) ts.sT[i].name=none/\(ts.sT.take i).any (fun y=>eP ts.sT[i] y)=false):=by
 cases h:zr (ckR ts i) ts.sT[i].name with
 |some p =>
  left;refine⟨p,rfl,?_⟩;unfold zr at h;rw[List.findIdx?_eq_some_iff_getElem]at h;obtain⟨j,g,_⟩:=h;refine List.any_eq_true.2 ⟨_,qs j,?_⟩;have g:decide ((ts.sT.take i)[p].name=ts.sT[i].name)=true:=g;have g:(ts.sT.take i)[p].name=ts.sT[i].name:=zUs g;exact decide_eq_true g.symm
 |none =>
  right;refine⟨rfl,?_⟩;unfold zr at h;rw[List.findIdx?_eq_none_iff]at h;rw[List.any_eq_false];intro x l;have:=h x l;have:¬x.name=ts.sT[i].name:=by simpa using this
  simpa using fun e:ts.sT[i].name=x.name=>this e.symm
theorem rdDg{lo:Nat}{mu:Mu}{av:AV}{xs:List Dg}(h:OwnF lo mu 2 av (xs.map cDg)):Rd mu av (lDg xs):=by
 refine h.1.rd (zi.ok fun r i=>?_) fun r i c g=>?_
 .obtain ⟨n,_,rfl⟩:=qo.1 i
  exact⟨rfl,rfl⟩
 .obtain ⟨n,_,rfl⟩:=qo.1 i
  rcases qz.1 g with rfl|g
  .exact HF.sc _
  .rw [qS]at g;subst g;exact HF.sc _
theorem Je{lo sz:Nat}{mu:Mu}{av:AV}{xs:List (List AV)}(h:OwnF lo mu sz av xs)(c:Cell):OwnF lo (mu++[c]) sz av xs:=⟨JT h.1 c,h.2.1,by have:=h.2.2;simp;omega⟩
theorem qqW(ts:TS)(h:okTS ts)(wp:∀ p,p∈ts.sT->WfN p.body)(i:Nat)(C:i<ts.sT.length)(hd:depN ts.sT[i].body<=24):qj qg 66 [eTS ts,aI i] (lDg (vX ts i)):=by
 have a5:=h.pl _ (qs C);have ag:=h.np;have c1:=qc8 ts h wp i zOm ts.sT[i].params ⟨zOm,a5.2⟩ zOm ts.sT[i].body (wp _ (qs C)) hd;have c2:=Vl (ckR ts i) (U9 h zOm) ts.sT[i].name;have a6:=qqV C;have hp:vX ts i=dups [(ts.sT.take i).any (fun y=>eP ts.sT[i] y)]++(dups (repL eM ts.sT[i].params)++rp (jJ (mkCk ts i) ts.sT[i].params ts.sT[i].body)):=by
  unfold vX;rw[qy C];simp only;rw[qa4,qy C]
 rw[hp];generalize hD:jJ (mkCk ts i) ts.sT[i].params ts.sT[i].body=D at *
 generalize hb:(ts.sT.take i).any (fun y=>eP ts.sT[i] y)=b at *
 have ah:(dups [b]).length<=1:=by cases b<;>simp[dups]
 refine qSU call66 func66 rfl ?_;refine cJ zKr ?_;simp[go_sem,C];refine tT c2 (.zk (zo _) (.zs (.zs .nil))) ?_;have wk:WKs [eTS ts,aI i,lPm ts.sT[i].params,eNd ts.sT[i].body] [eTS ts,aI i,lPm ts.sT[i].params,eNd ts.sT[i].body] := .zk (zo _) (.zs (.zk (ui _) (.zk (qO _) .nil)));have af:=Zg;have fin:∀ U:St,True:=fun _=>trivial
 rcases a6 with ⟨p,hc,a0⟩|⟨hc,a0⟩
 case' inl =>
  subst a0;rw[hc];have a7:(0:Int)<=(p:Int):=zOm;simp[go_sem,idxO,a7];refine Qn (lo:=0) (xs:=[]) (ys:=[(41,0)]) (OwnF.nil zSp) (by simp[qF]) zSp fun ai m0 a8 _=>?_
  simp[go_sem,C]
 case' inr =>
  subst a0;rw[hc];simp[go_sem,idxO,C]
 all_goals
  generalize a9:ts.sT[i]=g at *
 case' inl =>
  refine kM g.params.length (fun k U=>U.tm 2 = .ip (cTS ts)/\U.tm 1=aI i/\U.tm 6=lPm g.params/\U.tm 7=aI k/\OwnF 0 U.mu 2 (U.tm 5) ((dups [true]++dups ((repL eM g.params).take k)).map cDg)) ?_ ?_
  .exact ⟨zSi,zSi,zSi,zSi,by simpa[go_sem,dups] using a8⟩
 case' inr =>
  refine kM g.params.length (fun k U=>U.tm 2 = .ip (cTS ts)/\U.tm 1=aI i/\U.tm 6=lPm g.params/\U.tm 7=aI k/\OwnF 0 U.mu 2 (U.tm 5) ((dups [false]++dups ((repL eM g.params).take k)).map cDg)) ?_ ?_
  .exact ⟨zSi,zSi,zSi,zSi,by simp[go_sem,dups];exact OwnF.nil zSp⟩
 all_goals
  rintro k U hk ⟨e2,e1,e6,e7,ho⟩;have a4:(dups ((repL eM g.params).take k)).length<=k:=zK (Y16.Qi _) (List.length_take_le ..);generalize h5:U.tm 5=t at *
  by_cases r:k<g.params.length
  .have a1:=kn eM g.params k r
   have wi:=zWk k;simp[go_sem,e6,e7,r];refine kM k (fun j st2=>st2.tm 2 = .ip (cTS ts)/\st2.tm 1=aI i/\st2.tm 6=lPm g.params/\st2.tm 7=aI k/\st2.tm 5=t/\st2.tm 9=aI j/\st2.tm 8=aB ((g.params.take j).any fun y=>eM g.params[k] y)/\st2.mu=U.mu) ?_ ?_
   .exact ⟨zS1 e2,zS1 e1,zS1 e6,zS1 e7,zS1 h5,zSi,zSi,zSi⟩
   rintro j st2 hj ⟨f2,f1,f6,f7,f5,f9,f8,fm⟩;generalize hT:(g.params.take j).any (fun y=>eM g.params[k] y)=T at *
   by_cases I:j<k
   .have a2:j<g.params.length:=by omega
    have wj:=zWk j;have l:=Wa (fun y=>eM g.params[k] y) g.params j a2;rw[hT]at l;simp[go_sem,f7,f9,I];refine cJ zKr ?_;cases T with
    |true =>
     rw[Bool.true_or]at l;simp[go_sem,f9,f8,I,wj];exact aK ⟨zS1 f2,zS1 f1,zS1 f6,zS1 f7,zS1 f5,zSi,by rw[l];simp[go_sem],zS1 fm⟩
    |false =>
     rw[Bool.false_or]at l;by_cases hq:g.params[j].1=g.params[k].1
     .have o:(g.params.take (j+1)).any (fun y=>eM g.params[k] y)=true:=by rw[l];exact decide_eq_true hq.symm
      simp[go_sem,f6,f7,f9,f8,I,a2,r,wj,hq];exact aK ⟨zS1 f2,zS1 f1,zS1 f6,zS1 f7,zS1 f5,zSi,by rw[o];simp[go_sem],zS1 fm⟩
     .have o:(g.params.take (j+1)).any (fun y=>eM g.params[k] y)=false:=by rw[l];exact decide_eq_false fun e=>hq e.symm
      simp[go_sem,f6,f7,f9,f8,I,a2,r,wj,jS hq];exact aK ⟨zS1 f2,zS1 f1,zS1 f6,zS1 f7,zS1 f5,zSi,by rw[o];simp[go_sem],zS1 fm⟩
   .have aa:j=k:=by omega
    subst aa;rw[hT]at a1;cases T with
    |true =>
     simp[go_sem,f7,f5,f9,f8,fm];refine Qn (ys:=[(41,0)]) ho (by simp[qF]) zSo fun ab m' J ad=>?_
     simp[go_sem,f7,wi];exact⟨r,aK ⟨zS1 f2,zS1 f1,zS1 f6,zSi,by rw[a1,Jd,<-zq];simpa[go_sem,wJ] using J⟩⟩
    |false =>
     simp[go_sem,f7,f9,f8,fm,wi];exact⟨r,aK ⟨zS1 f2,zS1 f1,zS1 f6,zSi,by rw[a1,Jd];simpa[go_sem,wJ,f5,fm] using ho⟩⟩
  .have ae:k=g.params.length:=by omega
   subst ae;rw[yd (by rw[Qg];exact qt _)]at ho a4;simp[go_sem,e6,e7];refine cJ zKr ?_;simp[go_sem,e2,e1,e6,C,a9];refine tT c1 wk ?_;by_cases R:D.1=0
   .have a3:rp D=[]:=if_pos R
    rw[a3];simp[go_sem,h5,R];exact rdDg (Je ho _)
   .have a3:rp D=[D]:=if_neg R
    rw[a3];simp[go_sem,h5,R];refine Qn (ys:=[D]) (Je ho _) (by simp[qF]) (by simp only[q8,List.length_singleton];omega) fun ab m' J ad=>?_
    simp[go_sem];rw[zq]at J;exact rdDg J
theorem JS(f:Nat->List Dg)(n:Nat):(qv (n+1)).flatMap f=(qv n).flatMap f++f n:=by
 rw[List.range_succ,List.flatMap_append];simp only[wO,List.flatMap_nil,zN]
theorem qqX(ts:TS)(h:okTS ts)(wp:∀ p,p∈ts.sT->WfN p.body)(wf:∀ f,f∈ts.sP->WfN f.2)(dp:∀ p,p∈ts.sT->depN p.body<=24)(df:∀ f,f∈ts.sP->depN f.2<=24):qj qg 29 [eTS ts] (lDg (jB ts)):=by
 have al:=h.np;have an:=h.nfa;have hD:(dups (repL eS ts.sS)++dups (repL eF ts.sA)).length<=10:=by
  have a1:=Y16.Qi (repL eS ts.sS);have a2:=Y16.Qi (repL eF ts.sA);rw[Qg]at a1 a2;have:=h.ns;have:=h.nf;rw[q8];omega
 have hC:jB ts=(dups (repL eS ts.sS)++dups (repL eF ts.sA))++((qv ts.sT.length).flatMap (vX ts)++(qv ts.sP.length).flatMap (Qh ts ts.sP)):=by
  unfold jB;rw[zq]
 rw[hC];have a9:=qqU ts h [];generalize dups (repL eS ts.sS)++dups (repL eF ts.sA)=D0 at *
 refine qSU call29 func29 rfl ?_;refine fQ a9 (fun r m hr=>?_) (fun r m hr=>?_)
 case refine_2 =>
  obtain⟨t,e,_⟩:=hr;cases e
 obtain⟨ao,e,aa,_⟩:=hr;cases e;simp[go_sem];refine kM ts.sT.length (fun i U=>U.tm 1 = .ip (cTS ts)/\U.tm 4=aI i/\OwnF 0 U.mu 2 (U.tm 3) ((D0++(qv i).flatMap (vX ts)).map cDg)) ?_ ?_
 .exact ⟨zSi,zSi,zVs aa⟩
 rintro i U hi ⟨P,e4,R⟩;have ak:=Y16.X0 (vX ts) (Y16.mv h) i;generalize h3:U.tm 3=t at *
 by_cases g:i<ts.sT.length
 .have j:=JS (vX ts) i
  have aq:=Y16.mv h i;have ab:=qqW ts h wp i g (dp _ (qs g));have wi:=zWk i;generalize vX ts i=PD at *
  simp[go_sem,P,e4,h3,g];refine fR ab (.zk (zo ts) (.zs .nil)) ?_;refine Qn (ys:=PD) R (by simp[qF]) (by simp only[q8];omega) fun ad m' a0 ae=>?_
  simp[go_sem,e4,wi];exact⟨g,aK ⟨zS1 P,zSi,by rw[j,<-zq];simpa[go_sem] using a0⟩⟩
 .have a4:i=ts.sT.length:=by omega
  subst a4;simp[go_sem,P,e4];generalize (qv ts.sT.length).flatMap (vX ts)=P0 at *
  refine kM ts.sP.length (fun i U=>U.tm 1 = .ip (cTS ts)/\U.tm 5=aI i/\OwnF 0 U.mu 2 (U.tm 3) (((D0++P0)++(qv i).flatMap (Qh ts ts.sP)).map cDg)) ?_ ?_
  .exact ⟨zS1 P,zSi,by simpa[go_sem,h3] using R⟩
  clear R P e4 h3 g hi U;rintro i U hi ⟨P,e4,R⟩;have af:=Y16.X0 (Qh ts ts.sP) (Y16.qkR ts ts.sP) i;generalize h3:U.tm 3=ag at *
  by_cases g:i<ts.sP.length
  .have j:=JS (Qh ts ts.sP) i
   have ah:Qh ts ts.sP i=dups [(ts.sP.take i).any (fun y=>eA ts.sP[i] y)]++rp (yE ts [] ts.sP[i].2):=by
    unfold Qh;rw[qy g];simp only;rw[qa4,qy g]
   rw[ah]at j;have cf:=kl ts h wp [] ⟨zSp,zSp⟩ zSp ts.sP[i].2 (wf _ (qs g)) (df _ (qs g));have wi:=zWk i;generalize yE ts [] ts.sP[i].2=D at *
   simp[go_sem,P,e4,g];refine kM i (fun k st2=>st2.tm 1 = .ip (cTS ts)/\st2.tm 5=aI i/\st2.tm 3=ag/\st2.tm 7=aI k/\st2.tm 6=aB ((ts.sP.take k).any fun y=>eA ts.sP[i] y)/\st2.mu=U.mu) ?_ ?_
   .exact ⟨zS1 P,zS1 e4,zS1 h3,zSi,zSi,zSi⟩
   rintro k st2 hk ⟨f1,f4,f3,f6,f5,fm⟩;generalize hT:(ts.sP.take k).any (fun y=>eA ts.sP[i] y)=T at *
   by_cases a3:k<i
   .have a5:k<ts.sP.length:=by omega
    have wk:=zWk k;have l:=Wa (fun y=>eA ts.sP[i] y) ts.sP k a5;rw[hT]at l;simp[go_sem,f4,f6,a3];refine cJ zKr ?_;cases T with
    |true =>
     rw[Bool.true_or]at l;simp[go_sem,f6,f5,a3,wk];exact aK ⟨zS1 f1,zS1 f4,zS1 f3,zSi,by rw[l];simp[go_sem],zS1 fm⟩
    |false =>
     rw[Bool.false_or]at l;by_cases hq:ts.sP[k].1=ts.sP[i].1
     .have C:(ts.sP.take (k+1)).any (fun y=>eA ts.sP[i] y)=true:=by rw[l];exact decide_eq_true hq.symm
      simp[go_sem,f1,f4,f6,f5,a3,a5,g,wk,hq];exact aK ⟨zS1 f1,zS1 f4,zS1 f3,zSi,by rw[C];simp[go_sem],zS1 fm⟩
     .have C:(ts.sP.take (k+1)).any (fun y=>eA ts.sP[i] y)=false:=by rw[l];exact decide_eq_false fun e=>hq e.symm
      simp[go_sem,f1,f4,f6,f5,a3,a5,g,wk,jS hq];exact aK ⟨zS1 f1,zS1 f4,zS1 f3,zSi,by rw[C];simp[go_sem],zS1 fm⟩
   .have ai:k=i:=by omega
    subst ai;rw[hT]at j;have a6:WKs [eTS ts,.lst true [],eNd ts.sP[k].2] [eTS ts,lPm [],eNd ts.sP[k].2] := .zk (zo ts) (.cons (WK.lst fun r hr=>absurd hr qN) (.zk (qO _) .nil));have ar:=gS;cases T with
    |true =>
     simp[go_sem,f4,f3,f6,f5,fm];refine Qn (ys:=[(41,0)]) R (by simp[qF]) (by simp only[q8,List.length_singleton];omega) fun ad m' a0 ae=>?_
     simp[go_sem];refine cJ zKr ?_;simp[go_sem,f1,f4,g];refine tT cf a6 ?_;by_cases o:D.1=0
     .have I:rp D=[]:=if_pos o
      rw[I,zN]at j;simp[go_sem,f4,wi,o];exact⟨g,aK ⟨zS1 f1,zSi,by rw[j,<-zq];simpa[go_sem,wJ] using Je a0 (.arr [aI 0,aI D.2])⟩⟩
     .have I:rp D=[D]:=if_neg o
      rw[I]at j;simp[go_sem,o];refine Qn (ys:=[D]) (Je a0 _) (by simp[qF]) (by simp only[q8,List.length_singleton];omega) fun a7 aj J a8=>?_
      simp[go_sem,f4,wi];exact⟨g,aK ⟨zS1 f1,zSi,by rw[j,<-zq];simpa[go_sem,wJ,zq] using J⟩⟩
    |false =>
     simp[go_sem,f4,f6,f5,fm];refine cJ zKr ?_;simp[go_sem,f1,f4,g];refine tT cf a6 ?_;by_cases o:D.1=0
     .have I:rp D=[]:=if_pos o
      rw[I,zN]at j;simp[go_sem,f4,wi,o];exact⟨g,aK ⟨zS1 f1,zSi,by rw[j,<-zq];simpa[go_sem,wJ,f3] using Je R (.arr [aI 0,aI D.2])⟩⟩
     .have I:rp D=[D]:=if_neg o
      rw[I]at j;simp[go_sem,f3,o];refine Qn (ys:=[D]) (Je R _) (by simp[qF]) (by simp only[q8,List.length_singleton];omega) fun a7 aj J a8=>?_
      simp[go_sem,f4,wi];exact⟨g,aK ⟨zS1 f1,zSi,by rw[j,<-zq];simpa[go_sem,wJ,zq] using J⟩⟩
  .have a4:i=ts.sP.length:=by omega
   subst a4;simp[go_sem,P,e4,h3];rw[zq]at R;exact rdDg R
end QU
namespace QP
end QP
namespace QV
end QV
namespace QW
open YS YF Y9 Y10 Y1 Y2 YZ YA P1 P2
section
variable {nm:tN}{l:List tN}
abbrev rNm(b:tN):List AV:=[aS b]
abbrev lNm(l:List tN):AV := .lst false (l.map rNm)
def namL(n:Nd):List tN:=((preN n).filter fun x=>decide (x.name≠⟨#[]⟩)).map Nd.name
def vy(l:List Nd):List tN:=((zx l).filter fun x=>decide (x.name≠⟨#[]⟩)).map Nd.name
theorem qqY(n:Nd):namL n=(if n.name=⟨#[]⟩ then [] else [n.name])++vy n.sD:=by
 unfold namL vy;rw[wE,List.filter_cons];by_cases h:n.name=⟨#[]⟩
 .simp [h]
 .simp [h]
theorem YN:∀ a b:List Nd,zx (a++b)=zx a++zx b
 | [],b=>rfl
 |x :: a,b=>by rw[yH];simp only[zx];rw[YN a b,zq]
theorem qqZ(a:List Nd)(k:Nd):vy (a++[k])=vy a++namL k:=by
 grind [vy,namL,YN,zx]
theorem qq0(l:List Nd):(vy l).length<=(zx l).length:=by
 grind [vy,zM,List.length_filter_le]
theorem Wb(n:Nd):(namL n).length<=(preN n).length:=by
 grind [namL,zM,List.length_filter_le]
theorem kq(l:List tN):zi 1 (l.map rNm):=fun r g=>by
 obtain⟨x,_,rfl⟩:=qo.1 g;exact⟨rfl,rfl⟩
theorem qc9(l:List tN):HF (lNm l):=HF.lst fun r g c i=>by
 obtain⟨x,_,rfl⟩:=qo.1 g
 grind [qS,HF.sc]
theorem rdNm{lo:Nat}{mu:Mu}{av:AV}(h:OwnF lo mu 1 av (l.map rNm)):Rd mu av (lNm l):=
 h.1.rd (kq l).ok fun r g c i=>by
  obtain⟨x,_,rfl⟩:=qo.1 g
  grind [qS,HF.sc]
theorem appNm{mu:Mu}{lo:Nat}{s x:AV}{xs ys:List tN}{K:AV->Mu->Prop}(j:OwnF lo mu 1 s (xs.map rNm))(l:qF mu x=some (ys.map rNm))(o:xs.length+ys.length<=1000000)(p:∀ av mu',OwnF lo mu' 1 av ((xs++ys).map rNm)->(∀ i,i<lo->mu'[i]?=mu[i]?)->K av mu') :
  qA qg mu #[199,199] s x K:=by
 refine qA.ownF (lo:=lo) (e:=9) (sz:=1) (bt:=16) (zv:=aS ⟨#[]⟩) (xs:=xs.map rNm) (ys:=ys.map rNm) zSi zSi zSi rfl rfl zOm zOm j l (kq xs) (kq ys) zSo ?_
 grind
theorem qq1(l:List Nd)(k:Nat):(zx (l.take k)).length<=(zx l).length:=by
 grind [zx,YN,vA,q8]
theorem ku:∀(m:Nat) (n:Nd),szN n<=m->yF n->∀(lo:Nat) (mu:Mu) (av:AV) (xs:List tN),OwnF lo mu 1 av (xs.map rNm)->xs.length+(preN n).length<=500000 ->
  qD qg 171 [av,eNd n] mu fun e t=>∃ g,e = .ret g/\OwnF lo t 1 g ((xs++namL n).map rNm)/\∀ i,i<lo->t[i]?=mu[i]?
 | 0,n,I,_=>by obtain⟨op,nm,i,ks,p⟩:=n;simp[szN]at I
 |m+1,n,I,hs=>by
  intro lo mu av xs C hl;have ih:∀ k,k∈n.sD->∀(lo:Nat) (mu:Mu) (av:AV) (xs:List tN),OwnF lo mu 1 av (xs.map rNm)->xs.length+(preN k).length<=500000->qD qg 171 [av,eNd k] mu fun e t=>∃ g,e = .ret g/\OwnF lo t 1 g ((xs++namL k).map rNm)/\∀ i,i<lo->t[i]?=mu[i]?:=fun k P =>
   ku m k (zW1 (yv P)) (hs.kid P)
  have a2:=hs.len;have l:=qqY n;have a3:(preN n).length=1+(zx n.sD).length:=by rw[wE,zD];omega
  refine qSW call171 func171 rfl {} ?_;by_cases J:n.name=⟨#[]⟩
  case' pos =>
   rw[if_pos J,vD]at l;simp[go_sem,J];refine kM n.sD.length (fun k U=>U.tm 3 = .ip (cNd n)/\U.tm 5=aI k/\OwnF lo U.mu 1 (U.tm 0) ((xs++vy (n.sD.take k)).map rNm)/\∀ i,i<lo->U.mu[i]?=mu[i]?) ?_ ?_
   .simp_all [go_sem,vy,zx]
   generalize hX:xs=X at *
   have R:X.length+(zx n.sD).length<=500000:=zOm;have j:X++vy n.sD=X++namL n:=by rw[l]
  case' neg =>
   rw[if_neg J]at l;have T:n.name.toList.isEmpty=false:=by simpa using jS J
   simp[go_sem,T];refine appNm (ys:=[n.name]) C (by simp[qF]) (by grind) fun g t a4 a5=>?_
   simp[go_sem];refine kM n.sD.length (fun k U=>U.tm 3 = .ip (cNd n)/\U.tm 5=aI k/\OwnF lo U.mu 1 (U.tm 0) (((xs++[n.name])++vy (n.sD.take k)).map rNm)/\∀ i,i<lo->U.mu[i]?=mu[i]?) ?_ ?_
   .simp_all [go_sem,vy,zx]
   generalize hX:xs++[n.name]=X at *
   have R:X.length+(zx n.sD).length<=500000:=by grind
   have j:X++vy n.sD=xs++namL n:=by grind
  all_goals
   rintro k U P ⟨e3,e5,C,I⟩;generalize h0:U.tm 0=a0 at *
   by_cases o:k<n.sD.length
   .have w1:=zWk k
    have a6:vy (n.sD.take (k+1))=vy (n.sD.take k)++namL n.sD[k]:=by rw[vK o,qqZ]
    have a7:(zx (n.sD.take (k+1))).length=(zx (n.sD.take k)).length+(preN n.sD[k]).length:=by grind [vK,YN,zx]
    have h1:=qq1 n.sD (k+1);have h2:=qq0 (n.sD.take k);simp[go_sem,e3,e5,h0,o,zd];refine fQ (ih n.sD[k] (qs o) lo U.mu a0 _ C (by rw[q8];omega)) (fun r m2 hr=>?_) (fun r m2 hr=>?_)
    .simp_all [go_sem,aK,zq,qE,trans]
    grind
   .have a1:k=n.sD.length:=by omega
    subst a1;rw[qT,j]at C;simp[go_sem,e3,e5,h0];exact⟨zUs C,I⟩
def takL(ts:TS)(n:Nd):List tN:=namL n++ts.sT.flatMap fun p=>namL p.body
theorem qq2(ts:TS)(h:okTS ts)(wp:∀ p,p∈ts.sT->WfN p.body)(n:Nd)(hw:WfN n)(hl:(preN n).length<=400)(hp:∀ p,p∈ts.sT->(preN p.body).length<=400):qj qg 122 [eTS ts,eNd n] (lNm (takL ts n)):=by
 have a3:=h.np;have hk:∀ i (o:i<ts.sT.length),ts.sT.take (i+1)=ts.sT.take i++[ts.sT[i]]:=fun i o=>vK o
 have I:∀ i,((ts.sT.take i).flatMap fun p=>namL p.body).length<=400*i:=by
  intro i;induction i with
  |zero=>simp
  |succ i ih =>
   by_cases o:i<ts.sT.length
   .rw [hk i o,List.flatMap_append,q8]
    have h1:=Wb ts.sT[i].body;have h2:=hp _ (qs o);simp only[wO,List.flatMap_nil,zN];omega
   .have e1:ts.sT.take (i+1)=ts.sT:=yd zOm
    have l:ts.sT.take i=ts.sT:=yd zOm;rw[e1];rw[l]at ih;omega
 have hn:=Wb n;refine qSU call122 func122 rfl ?_;refine fQ (ku (szN n) n (qt _) hw.small 0 [] (.lst true []) [] (OwnF.nil zSp) zSo) (fun r J j=>?_) (fun r J j=>?_)
 case refine_2 =>
  obtain⟨t,e,_⟩:=j;cases e
 obtain⟨a4,e,C,_⟩:=j;cases e;rw[vD]at C;simp[go_sem];refine kM ts.sT.length (fun k U=>U.tm 2 = .ip (cTS ts)/\U.tm 6=aI k/\OwnF 0 U.mu 1 (U.tm 5) ((namL n++(ts.sT.take k).flatMap fun p=>namL p.body).map rNm)) ?_ ?_
 .exact ⟨zSi,zSi,zVs C⟩
 rintro k U a5 ⟨l,P,R⟩;generalize h5:U.tm 5=T at *
 by_cases g:k<ts.sT.length
 .have w1:=zWk k
  have a0:(ts.sT.take (k+1)).flatMap (fun p=>namL p.body)=(ts.sT.take k).flatMap (fun p=>namL p.body)++namL ts.sT[k].body:=by
   rw[hk k g,List.flatMap_append];simp only[wO,List.flatMap_nil,zN]
  have h1:=I k;have h2:=hp _ (qs g);simp[go_sem,l,P,h5,g,Zg];refine fQ (ku (szN ts.sT[k].body) ts.sT[k].body (qt _) (wp _ (qs g)).small 0 U.mu T _ R (by rw[q8];omega)) (fun r J j=>?_) (fun r J j=>?_)
  .obtain ⟨t,e,a1,_⟩:=j
   cases e;simp[go_sem,l,P,w1];exact⟨g,aK ⟨zS1 l,zSi,by rw[a0,<-zq];simpa[go_sem] using a1⟩⟩
  .obtain ⟨t,e,_⟩:=j
   cases e
 .have a2:k=ts.sT.length:=by omega
  subst a2;rw[qT]at R;simp[go_sem,l,P,h5];exact rdNm R
def inL(nm:tN)(l:List tN):Bool:=l.any fun x=>decide (x=nm)
theorem kv:inL nm l=true↔nm∈l:=by
 unfold inL;simp
theorem qdA(h:¬nm∈l):inL nm l=false:=by
 grind [inL,absurd,kv]
theorem hasU(l:List tN)(nm:tN)(P:l.length<=1000000):qj qg 208 [lNm l,aS nm] (aB (inL nm l)):=by
 refine qSU call208 func208 rfl ?_;refine kM l.length (fun k U=>U.tm 0=lNm l/\U.tm 1=aS nm/\U.tm 5=aI k/\∀ x,x∈l.take k->x≠nm) ?_ ?_
 .simp [go_sem, *]
 rintro k U R ⟨i,j,r,t⟩;by_cases g:k<l.length
 .have J:=zWk k
  by_cases o:l[k]=nm
  .have C:inL nm l=true:=kv.2 (o ▸ qs g)
   rw[C];simp[go_sem,i,j,r,g,o];exact .zsc _
  .simp [go_sem,i,j,r,g,jS o,J]
   refine aK ⟨zS1 i,zS1 j,zSi,fun x p=>?_⟩;rw[vK g,qM,qS]at p;rcases p with p|rfl
   .exact t x p
   .exact o
 .have I:k=l.length:=by omega
  subst I;rw[qT]at t;have C:inL nm l=false:=qdA fun h=>t nm h rfl
  rw[C];simp[go_sem,i,j,r];exact .zsc _
theorem qq3(u:Nat)(h:u<10):ByteArray.empty.push (UInt8.ofNat ((48:Int)+(u:Int)).toNat)=jz u:=by
 unfold jz;rw[Lib.itoa_nonneg,Lib.decDigits_one h,show ((48:Int)+(u:Int)).toNat=48+u by omega];rfl
theorem qq4(u:Nat)(h:¬u<10):jz ((u / 10:Nat):Int)++ByteArray.empty.push (UInt8.ofNat ((48:Int)+((u % 10:Nat):Int)).toNat)=jz u:=by
 unfold jz;rw[Lib.itoa_nonneg,Lib.itoa_nonneg,Lib.decDigits.eq_1 u,dif_neg h,show ((48:Int)+((u % 10:Nat):Int)).toNat=48+u % 10 by omega];apply ByteArray.ext;simp
theorem digU:∀(m u:Nat),u<=m->u<=1000000000->qj qg 207 [aI u] (aS (jz u))
 |m,u,J,P=>by
  have r:qq.wrap (48+(u:Int))=48+(u:Int):=zWr;refine qSV call207 func207 rfl ?_;by_cases h:u<10
  .have i:(u:Int)<10:=by omega
   have t:IntKind.u8.wrap (48+(u:Int))=48+(u:Int):=IntWalk.u8_in _ ⟨zOm,zOm⟩;have g:=qq3 u h;simp[go_sem,i,r,t,g];exact .zsc _
  .have i:¬(u:Int)<10:=by omega
   have C:=digU (u / 10) (u / 10) (qt _) zOm;have g:=qq4 u h;simp[go_sem,i];refine cJ zKr ?_;have I:qq.wrap ((u:Int) / 10)=((u / 10:Nat):Int):=by rw[show ((u:Int) / 10)=((u / 10:Nat):Int) from rfl];grind [yg]
   have t3:(u:Int).tmod 10=((u % 10:Nat):Int):=rfl;have o:qq.wrap (48+((u % 10:Nat):Int))=48+((u % 10:Nat):Int):=zWr;have p:IntKind.u8.wrap (48+((u % 10:Nat):Int))=48+((u % 10:Nat):Int):=IntWalk.u8_in _ ⟨zOm,zOm⟩;have j:=Kt ((u / 10:Nat):Int) zOm zOm;simp[go_sem,I];refine tT C (.zs .nil) ?_;have c1:((u / 10:Nat):Int)=(u:Int) / 10:=rfl;have c2:((u % 10:Nat):Int)=(u:Int) % 10:=rfl;rw[c1]at j g;rw[c2]at o p g;have l:(jz ((u:Int) / 10)).size<=9223372036854775806:=zOm;simp[go_sem,t3,o,p,l,g];exact .zsc _
end
end QW
namespace QX
open YS YF Y9 Y1 Y2 YX YZ YA YB P1 QD QK QW
abbrev cWk(ts:TS)(l:List tN)(s:ISt):List AV:=cTS ts++[lNm l,aI s.last,aI s.sM]
abbrev eWk(ts:TS)(l:List tN)(s:ISt):AV := .agg (cWk ts l s)
theorem qq5(ts:TS)(l:List tN)(s:ISt):∀ c,c∈cWk ts l s->HF c:=fun c g=>by
 rcases qM.1 g with g|g
 .exact Um ts c g
 .simp only[qz,qN,or_false]at g
  rcases g with rfl|rfl|rfl
  .exact qc9 l
  .exact HF.sc _
  .exact HF.sc _
theorem wK(ts:TS)(l:List tN)(s:ISt):HF (eWk ts l s):=HF.agg (qq5 ts l s)
structure Tn (l:List tN) (es:List (tN×Bool)):Prop where
 mem:∀ nm:tN,nm≠⟨#[]⟩->(nm∈l↔getK nm es=some true)
 len:es.length<=l.length+1
theorem vN_ne(k:Int):vN k≠⟨#[]⟩:=fun e=>by
 have:=congrArg ByteArray.size e;unfold vN at this;rw[ByteArray.size_append]at this;have g:(⟨#[118]⟩:tN).size=1:=rfl;have i:(⟨#[]⟩:tN).size=0:=rfl;omega
theorem qq6{ts:TS}{l:List tN}{es:List (tN×Bool)}(t:Tn l es)(k:Int):yN ts es (vN k)=(decide ((means ts (vN k)).length=0)&&!inL (vN k) l):=by
 unfold yN;have i:=t.mem (vN k) (vN_ne k);have j:decide (means ts (vN k)=[])=decide ((means ts (vN k)).length=0):=by
  simp[List.length_eq_zero_iff]
 rw[j,Bool.and_comm];congr 1;by_cases g:vN k∈l
 .rw [kv.2 g];simp[i.1 g]
 .rw [qdA g]
  simp only[Bool.not_false,decide_eq_true_eq];exact fun e=>g (i.2 e)
theorem two{J:Type}{l:List J}{a b:J}(g:l[0]?=some a)(i:l[1]?=some b):∃ r,l=a :: b :: r:=by
 match l,g,i with
 |_ :: _ :: r,g,i =>
  simp at g i;exact⟨r,by rw[g,i]⟩
abbrev zWc:List AV:=[.lst true [],.lst true [],.lst true [],.lst true [],.lst true [],aI 0,aI 0]
theorem qq7(ts:TS)(h:okTS ts)(l:List tN)(es:List (tN×Bool))(t:Tn l es)(hl:l.length<=400000)(s:ISt)(hs:0<=s.last/\s.last+(qr ts es:Nat)<=1000000000)(a5:∃ j:Nat,1<=j/\j<=qr ts es/\yN ts es (vN (s.last+j))=true) :
  qj qg 170 [eWk ts l s] (.tup [eWk ts l ⟨zy ts es (qr ts es) s.last,s.sM⟩,aS (vN (zy ts es (qr ts es) s.last))]):=by
 have a9:=h.ns;have aa:=h.nf;have hF:qr ts es<=l.length+40:=by have:=t.len;unfold qr;omega
 have a6:okNm ts:=⟨h.sl,zOm,zOm,fun f hf=>zW1 (h.fl f hf)⟩;generalize ab:qr ts es=F at *
 generalize hR:zy ts es F s.last=R;refine qSQ call170 func170 rfl { mt:=[1] } ?_;simp[go_sem];refine tK (fun m U=>∃(i:Nat) (k:Int),i+m=F/\0<=k/\k+m<=1000000000/\U.tm 1 = .ptr 0 0/\U.tm 2 = .ptr 1 0/\U.tm 4=aI i/\U.mu[0]?=some (.arr (cWk ts l ⟨k,s.sM⟩))/\U.mu[1]?=some (.arr zWc)/\zy ts es m k=R/\∃ j:Nat,1<=j/\j<=m/\yN ts es (vN (k+j))=true) F ?_ ?_
 .exact ⟨0,s.last,zOm,hs.1,zOm,zSi,zSi,zSi,zSi,zSi,hR,a5⟩
 rintro m U ⟨i,k,ad,ae,af,I,J,e4,m0,m1,hI,j,ag,ah,P⟩;obtain⟨m,rfl⟩:∃ m',m=m'+1:=⟨m-1,zOm⟩;obtain⟨rr,o⟩:=two m0 m1;have w1:qq.wrap (k+1)=k+1:=zWr;have w2:qq.wrap ((l.length:Int)+40)=(l.length:Int)+40:=zWr;have w3:=zWk i;have g:(i:Int)<=(l.length:Int)+40:=zOm;obtain⟨u,hu⟩:∃ u:Nat,k+1=(u:Int):=⟨(k+1).toNat,zOm⟩;have cd:=digU u u (qt _) zOm;have ai:=Kt (u:Int) zOm zOm;have a3:1+(jz (u:Int)).size<=9223372036854775807:=zOm;have hv:(⟨#[118]⟩:tN)++jz (u:Int)=vN (k+1):=by rw[hu];rfl
 have p:=qq6 (ts:=ts) t (k+1);have cn:=KZ ts a6 (vN (k+1));have a0:=KY ts (vN (k+1));have hk:(named ts (vN (k+1))).2=(means ts (vN (k+1))).length:=by rw[kh h]
 rw[hk]at cn;generalize (named ts (vN (k+1))).1=C at *
 have ch:=hasU l (vN (k+1)) zOm;clear m0 m1;simp[go_sem,I,J,e4,o,w1,w2,g];refine tT cd (.cons (by rw[hu];exact .hf (HF.sc _)) .nil) ?_;simp[go_sem,I,J,e4,o,w1,w2,g,a3,hv];refine tT cn (.zk (zo ts) (.zs .nil)) ?_;simp[go_sem,I,J,e4,o,w1,w2,g,a0.len];rw[if_pos a0.one];generalize putCells _ 0 C=PC;have next:yN ts es (vN (k+1))=false->∃ k':Int,k'=k+1/\zy ts es m k'=R/\∃ j:Nat,1<=j/\j<=m/\yN ts es (vN (k'+j))=true:=fun hn=>by
  refine⟨k+1,rfl,?_,j-1,?_,zOm,?_⟩
  .rw [<-hI];simp only[zy];rw[if_neg (by rw[hn];simp)]
  .have:j≠1:=fun e=>by subst e;rw[show k+((1:Nat):Int)=k+1 from rfl]at P;rw[hn]at P;cases P
   omega
  .rw [show k+1+((j-1:Nat):Int)=k+j by omega];exact P
 by_cases T:means ts (vN (k+1))=[]
 .rw [T]at p
  simp[go_sem,I,J,e4,o,w1,w2,g,T];refine tT ch (.zk (qc9 l) (.zs .nil)) ?_;cases a4:inL (vN (k+1)) l with
  |true =>
   rw[a4]at p;obtain⟨k',r,a1,a2⟩:=next p;simp[go_sem,I,J,e4,o,w1,w2,w3,g];exact⟨m,zOm,aK ⟨i+1,k+1,zOm,zOm,zOm,zS1 I,zS1 J,zSi,zSi,zSi,by rw[<-r];exact a1,by rw[<-r];exact a2⟩⟩
  |false =>
   rw[a4]at p;have a7:R=k+1:=by rw[<-hI];simp only[zy];rw[if_pos (by rw[p];rfl)]
   simp[go_sem,I,J,e4,o,w1,w2,g];rw[a7];exact .hf _ (HF.tup fun x hx=>by
    simp only[qz,qN,or_false]at hx;rcases hx with rfl|rfl
    .exact wK ts l ⟨k+1,s.sM⟩
    .exact HF.sc _)
 .have a8:¬(means ts (vN (k+1))).length=0:=fun e=>T (List.length_eq_zero_iff.1 e)
  rw[decide_eq_false a8]at p;obtain⟨k',r,a1,a2⟩:=next p;simp[go_sem,I,J,e4,o,w1,w2,w3,g,T];exact⟨m,zOm,aK ⟨i+1,k+1,zOm,zOm,zOm,zS1 I,zS1 J,zSi,zSi,zSi,by rw[<-r];exact a1,by rw[<-r];exact a2⟩⟩
abbrev Sb:=tN×IV
def cAr:Option Nd->List AV
 |some a=>cNd a
 |none=>[aI 0,aS ⟨#[]⟩,aI 0,.lst true [],aI 0]
@[go_sem] theorem cAr_some(a:Nd):cAr (some a)=cNd a:=rfl
@[go_sem] theorem cAr_none:cAr none=[aI 0,aS ⟨#[]⟩,aI 0,.lst true [],aI 0]:=rfl
@[go_sem] theorem qq8(o:Option Nd):(cAr o).length=5:=by cases o<;>simp[go_sem,yI]
theorem qq9(o:Option Nd):∀ c,c∈cAr o->HF c:=by
 cases o with
 |some a=>exact vG a
 |none =>
  intro c g;simp only[cAr,qz,qN,or_false]at g;rcases g with rfl|rfl|rfl|rfl|rfl
  .exact HF.sc _
  .exact HF.sc _
  .exact HF.sc _
  .exact HF.lst fun r i=>absurd i qN
  .exact HF.sc _
abbrev cSb(x:Sb):List AV:=[aS x.1,aS x.2.name,aB x.2.arg.isSome]++cAr x.2.arg++[aI x.2.size]
abbrev lSb(l:List Sb):AV := .lst false (l.map cSb)
def uU(nm:tN)(l:List Sb):Option IV:=l.foldl (fun r e=>if e.1=nm then some e.2 else r) none
theorem Wc(nm:tN)(l:List Sb)(e:Sb):uU nm (l++[e])=if e.1=nm then some e.2 else uU nm l:=by
 unfold uU;rw[vM];rfl
theorem kw{mu:Mu}(ts:TS)(l:List tN)(s:ISt)(n:Nd)(z:Int):Rd mu (.tup [eWk ts l s,eNd n,aI z]) (.tup [eWk ts l s,eNd n,aI z]) := .hf _ (HF.tup fun x g=>by
 simp only[qz,qN,or_false]at g;rcases g with rfl|rfl|rfl
 .exact wK ts l s
 .exact qO n
 .exact HF.sc _)
def Qo(sc:List Sb)(n:Nd)(s:ISt):(Nd×Int)×ISt:=match uU n.name sc with
 |none=>((n,1),s)
 |some v=>match v.arg with
  |none=>((.mk n.op v.name n.n n.sD n.pos,1),s)
  |some a=>((a,v.size),payS v.size s)
theorem leafU(ts:TS)(l:List tN)(sc:List Sb)(hl:sc.length<=1000000)(n:Nd)(s:ISt)(hs:0<=s.sM/\s.sM<=1000000)(hz:∀ e,e∈sc->0<=e.2.size/\e.2.size<=1000000) :
  qj qg 167 [eWk ts l s,lSb sc,eNd n] (.tup [eWk ts l (Qo sc n s).2,eNd (Qo sc n s).1.1,aI (Qo sc n s).1.2]):=by
 unfold Qo;generalize hR:uU n.name sc=R;have wl:qq.wrap ((sc.length:Int)-1)=(sc.length:Int)-1:=zWr;refine qSQ call167 func167 rfl { mt:=[3,5] } ?_;simp[go_sem,wl,zd];refine tK (fun m U=>m<=sc.length/\U.tm 1=lSb sc/\U.tm 3 = .ptr 0 0/\U.tm 5 = .ptr 1 0/\U.tm 6 = .ptr 2 0/\U.tm 7 = .ptr 3 0/\U.tm 9=aI ((m:Int)-1)/\U.mu=[.arr (cWk ts l s),.arr (cNd n),.arr zWc,.arr [aI 0,aS ⟨#[]⟩,aI 0,.lst true [],aI 0]]/\uU n.name (sc.take m)=R) sc.length ?_ ?_
 .exact ⟨qt _,zSi,zSi,zSi,zSi,zSi,zSi,by simp[go_sem,zd],by rw[qT];exact hR⟩
 rintro m U ⟨a2,j,o,p,r,t,C,I,P⟩;cases m with
 |zero =>
  have a1:R=none:=by rw[<-P];rfl
  subst a1;simp[go_sem,j,o,p,r,t,C,I,zd];refine fD [0,1,4,2,3] [(0,0,[]),(1,0,[]),(4,0,[]),(2,1,[1]),(3,1,[])] zKr zKr zSi ?_;simp[go_sem,j,o,p,r,t,C,I,zd];exact kw ts l s n 1
 |succ m =>
  have g:m<sc.length:=zOm;have a3:(0:Int)<=((m+1:Nat):Int)-1:=zOm;have T:((m+1:Nat):Int)-1=(m:Int):=zOm;rw[T]at C;rw[vK g,Wc]at P;have w1:qq.wrap ((m:Int)-1)=(m:Int)-1:=zWr;have a4:=hz _ (qs g);generalize i:sc[m]=e at *
  by_cases J:e.1=n.name
  .rw [if_pos J]at P
   subst P;have w2:qq.wrap (s.sM+e.2.size)=s.sM+e.2.size:=zWr;simp[go_sem,j,o,p,r,t,C,I,zd,g];refine cJ zKr ?_;simp[go_sem,j,o,p,r,t,C,I,zd,g,i,J];cases ha:e.2.arg with
   |none =>
    simp[go_sem,j,o,p,r,t,C,I,zd,g,i,J,ha];refine fD [0,1,4,2,3] [(0,0,[]),(1,0,[]),(4,0,[]),(2,1,[1]),(3,1,[])] zKr zKr zSi ?_;have a0:(cNd n).set 1 (AV.sc (.string e.2.name))=cNd (.mk n.op e.2.name n.n n.sD n.pos):=by rw[yI n,yI];rfl
    rw[a0];simp[go_sem,j,o,p,r,t,C,I,zd];exact kw ts l s _ 1
   |some a =>
    simp[go_sem,j,o,p,r,t,C,I,zd,g,i,J,ha];refine fD [0,1,2,3,4,5,6,7,8,9] [(0,0,[]),(1,0,[]),(2,0,[]),(3,0,[]),(4,0,[]),(5,0,[]),(6,0,[]),(7,0,[]),(8,0,[]),(9,1,[])] zKr zKr zSi ?_;simp[go_sem,j,o,p,r,t,C,I,zd,g,i,J,ha,w2];refine fD [0,1,2,3,4,5,6,7,8,9,10,13,11,12] [(0,0,[]),(1,0,[]),(2,0,[]),(3,0,[]),(4,0,[]),(5,0,[]),(6,0,[]),(7,0,[]),(8,0,[]),(9,0,[]),(10,0,[]),(13,0,[]),(11,1,[5,10]),(12,1,[10])] zKr zKr zSi ?_;simp[go_sem,j,o,p,r,t,C,I,zd,g,i,J,ha,w2];exact kw ts l (payS e.2.size s) a e.2.size
  .rw [if_neg J]at P
   simp[go_sem,j,o,p,r,t,C,I,zd,g];refine cJ zKr ?_;simp[go_sem,j,o,p,r,t,C,I,zd,g,i,jS J,w1];exact⟨m,zOm,aK ⟨zOm,zS1 j,zS1 o,zS1 p,zS1 r,zS1 t,zSi,zS1 I,P⟩⟩
theorem kx:∀(m:Nat) (n:Nd),szN n<=m->yF n->depN n<=1000000->qj qg 123 [eNd n] (aI (depN n))
 | 0,n,J,_,_=>by obtain⟨op,nm,i,ks,p⟩:=n;simp[szN]at J
 |m+1,n,J,P,R=>by
  have ih:∀ k,k∈n.sD->qj qg 123 [eNd k] (aI (depN k)):=fun k j =>
   kx m k (zW1 (yv j)) (P.kid j) (by rw[Zm]at R;have:=qaT j;omega)
  rw[Zm]at R⊢;have T:=P.len;have a0:=UM n.sD;generalize hD:yy n.sD=D at *
  refine qSU call123 func123 rfl ?_;refine kM n.sD.length (fun k U=>∃ d,U.tm 3=aI d/\U.tm 1 = .ip (cNd n)/\U.tm 4=aI k/\0<=d/\max d (yy (n.sD.drop k))=D) ?_ ?_
  .exact ⟨0,zSi,zSi,zSi,zOm,by simp only[List.drop_zero,hD];omega⟩
  .rintro k U j ⟨d,r,l,t,a1,o⟩
   by_cases C:k=n.sD.length
   .subst C
    rw[yA]at o;simp only[yy]at o;have I:d=D:=zOm;subst I;have w:qq.wrap (d+1)=d+1:=zWr;simp[go_sem,r,l,t,w];exact .zsc _
   .have g:k<n.sD.length:=by omega
    have w1:=zWk k;rw[zp g]at o;simp only[yy]at o;simp[go_sem,r,l,t,g,zd];refine tT (ih n.sD[k] (qs g)) (.zk (qO _) .nil) ?_;simp[go_sem,r,l,t,w1];refine⟨g,aK ?_⟩;refine⟨if d<depN n.sD[k] then depN n.sD[k] else d,zSi,zS1 l,zSi,?_,?_⟩
    .have:=qaS n.sD[k]
     split<;>omega
    .split<;>omega
end QX
namespace QY
open Y1 YX YA YB YC P1 P2 PA QE QX
section
variable {es:List (tN×Bool)}
structure ScOf (ts:TS) (body:Bool) (sc:List Sb) (env:IEnv):Prop where
 look:∀ nm,uU nm sc=getK nm env
 own:body=false->∀ nm v,getK nm env=some v->means ts nm≠[]
 sz:∀ e,e∈sc->0<=e.2.size/\e.2.size<=4000
def OutR(r:XR (Nd×Int))(s':ISt)(n':Nd)(z:Int):Prop:=match r with
 | .ok ((m,y),t)=>n'=m/\z=y/\s'=t
 | .error _=>4000<s'.sM/\s'.sM<=9000/\0<=z/\z<=4000
def renR(ts:TS)(es:List (tN×Bool))(sc:List Sb)(nm:tN)(body:Bool)(s:ISt):(List Sb×tN)×ISt:=
 if body=true\/means ts nm≠[] then
  ((sc++[(nm,⟨none,0,vN (zy ts es (qr ts es) s.last)⟩)],vN (zy ts es (qr ts es) s.last)),⟨zy ts es (qr ts es) s.last,s.sM⟩)
 else ((sc,nm),s)
abbrev XO:=ISt×Nd×Int
def ua(E:Nd->ISt->XO):List (tN×Int)->List Nd->List Sb->ISt->Except ISt (List Sb×ISt)
 |p :: g,k :: ks,own,s=>if 4000<(E k s).1.sM then .error (E k s).1 else ua E g ks (own++[(p.1,⟨some (E k s).2.1,(E k s).2.2,⟨#[]⟩⟩)]) (E k s).1
 |_,_,own,s => .ok (own,s)
def ur(E:List Sb->Nd->ISt->XO)(R:List Sb->tN->ISt->(List Sb×tN)×ISt)(bin:Bool):Nat->List Sb->tN->List Nd->ISt->Except ISt ((tN×List Nd×Int)×ISt)
 |_,_,o,[],s => .ok ((o,[],0),s)
 |i,sc,o,k :: ks,s =>
  let r:=if bin=true/\i=1 then R sc o s else ((sc,o),s)
  let q:=E r.1.1 k r.2
  if 4000<q.1.sM then .error q.1 else match ur E R bin (i+1) r.1.1 r.1.2 ks q.1 with
   | .error e => .error e
   | .ok ((g,j,p),l) => .ok ((g,q.2.1 :: j,q.2.2+p),l)
def expR(ts:TS)(es:List (tN×Bool)):Nat->List Sb->Nd->Bool->ISt->XO
 | 0,_,n,_,s=>(s,n,0)
 |f+1,sc,n,g,s =>
  if s.sM+1<=4000 then
   if n.op=1 then ((Qo sc n (payS 1 s)).2,(Qo sc n (payS 1 s)).1.1,(Qo sc n (payS 1 s)).1.2)
   else if n.op=47 then match ts.sT.find? fun p=>decide (p.name=n.name) with
    |none=>(payS 1 s,n,1)
    |some p=>match ua (fun k s=>expR ts es f sc k g s) p.params n.sD [] (payS 1 s) with
     | .error i=>(i,nd0,0)
     | .ok (own,i)=>expR ts es f own p.body true i
   else match ur (fun sc k s=>expR ts es f sc k g s) (fun sc o s=>renR ts es sc o g s) (binB n.op) 0 sc n.name n.sD (payS 1 s) with
    | .error i=>(i,nd0,0)
    | .ok ((o,ks,m),i)=>(i,.mk n.op o n.n ks n.pos,1+m)
  else (payS 1 s,nd0,0)
theorem Wd{F:Nat}{s s':ISt}{z:Int}(g:Gos F s s' z)(h:StOk F s):StOk F s'/\s.sM<=s'.sM/\z<=4000:=⟨g.ok h,zW2 g.cz g.z0,by have:=g.cz;have:=g.c1;have:=h.c0;omega⟩
theorem qdB{F f:Nat}{E:Nd->ISt->XR (Nd×Int)}{E':Nd->ISt->XO}:∀(ps:List (tN×Int)) (ks:List Nd) (own:IEnv) (i:List Sb) (s:ISt),
  (∀ k,k∈ks->∀ s,StOk F s->4000<s.sM+(f:Int)->OutR (E k s) (E' k s).1 (E' k s).2.1 (E' k s).2.2)->(∀ k n' z s s',k∈ks->StOk F s->E k s = .ok ((n',z),s')->Gos F s s' z) ->
  StOk F s->4000<s.sM+(f:Int)->zu own->(∀ nm,uU nm i=getK nm own)->(∀ e,e∈i->0<=e.2.size/\e.2.size<=4000) ->
  match jw E ps ks own s with
  | .error _=>∃ t,ua E' ps ks i s = .error t/\4000<t.sM/\t.sM<=9000
  | .ok (l,s')=>∃ j,ua E' ps ks i s = .ok (j,s')/\zu l/\(∀ nm,uU nm j=getK nm l)/\(∀ e,e∈j->0<=e.2.size/\e.2.size<=4000)/\StOk F s'/\s.sM<=s'.sM
 | [],ks,own,i,s,_,_,o,_,J,P,R=>by simp only[jw,ua];exact⟨i,rfl,J,P,R,o,vB _⟩
 |p :: ps,[],own,i,s,_,_,o,_,J,P,R=>by simp only[jw,ua];exact⟨i,rfl,J,P,R,o,vB _⟩
 |p :: ps,k :: ks,own,i,s,hE,hG,o,hf,J,P,R=>by
  simp only[jw,ua];have C:=hE k (zh ..) s o hf;have h2:=fun n' z s'=>hG k n' z s s' (zh ..) o
  generalize E' k s=Q at *
  cases T:E k s with
  |error d =>
   rw[T]at C;simp only;rw[if_pos C.1];exact⟨_,rfl,C.1,C.2.1⟩
  |ok r =>
   obtain⟨⟨m,y⟩,t⟩:=r;rw[T]at C;obtain⟨e1,e2,e3⟩:=C;have g:=h2 m y t T;obtain⟨g1,g2,g3⟩:=Wd g o;have hc:=g.c1;simp only;rw[if_neg (by rw[e3];omega),e1,e2,e3];have ih:=qdB (F:=F) (f:=f) ps ks (setK p.1 ⟨some m,y,⟨#[]⟩⟩ own) (i++[(p.1,⟨some m,y,⟨#[]⟩⟩)]) t (fun k U=>hE k (zc _ U)) (fun k n' z s s' U=>hG k n' z s s' (zc _ U)) g1 zOm (J.set ⟨g.z0,g3⟩) (fun nm=>by
    rw[Wc,vo,P];by_cases e:p.1=nm
    .grind
    .rw [if_neg e,if_neg fun x=>e x.symm]) (fun e I=>by
    rcases qM.1 I with I|I
    .exact R e I
    .rw [qS]at I;subst I;exact⟨g.z0,g3⟩)
   grind
theorem qdC{ts:TS}{env:IEnv}{sc:List Sb}{nm:tN}{body:Bool}{s:ISt}(j:zu env)(h:ScOf ts body sc env) :
  ScOf ts body (renR ts es sc nm body s).1.1 (renI ts es env nm body s).1.1/\(renR ts es sc nm body s).1.2=(renI ts es env nm body s).1.2/\(renR ts es sc nm body s).2=(renI ts es env nm body s).2:=by
 unfold renR renI;by_cases l:body=true\/means ts nm≠[]
 .rw [if_pos l,if_pos l]
  refine⟨⟨fun x=>?_,fun i x v g=>?_,fun e o=>?_⟩,rfl,rfl⟩
  .simp only
   rw[Wc,vo,Zb j.nd,h.look];by_cases e:nm=x
   .grind
   .rw [if_neg e,if_neg fun y=>e y.symm,if_neg fun y=>e y.symm]
  .simp only at g
   rw[vo,Zb j.nd]at g;by_cases e:x=nm
   .grind
   .rw [if_neg e,if_neg e]at g
    exact h.own i x v g
  .rcases qM.1 o with o|o
   .exact h.sz e o
   grind
 .rw [if_neg l,if_neg l]
  refine⟨⟨fun x=>?_,fun i x v g=>?_,h.sz⟩,rfl,rfl⟩
  .simp only
   rw[Zb j.nd,h.look];by_cases e:x=nm
   .rw [if_pos e]
    cases p:getK x env with
    |none=>rfl
    |some v =>
     have i:body=false:=by grind
     exact absurd (h.own i x v p) (by grind)
   .rw [if_neg e]
  .simp only at g
   rw[Zb j.nd]at g;split at g
   .cases g
   .exact h.own i x v g
theorem qdD{ts:TS}{es:List (tN×Bool)}(C:Free ts es){f:Nat}{body:Bool}{E:IEnv->Nd->ISt->XR (Nd×Int)}{E':List Sb->Nd->ISt->XO}{bin:Bool}:∀(ks:List Nd) (i:Nat) (env:IEnv) (sc:List Sb) (nm:tN) (s:ISt),
  (∀ k,k∈ks->∀ env sc s,StOk (qr ts es) s->4000<s.sM+(f:Int)->zu env->ScOf ts body sc env->OutR (E env k s) (E' sc k s).1 (E' sc k s).2.1 (E' sc k s).2.2) ->
  (∀ env k n' z s s',k∈ks->StOk (qr ts es) s->zu env->E env k s = .ok ((n',z),s')->Gos (qr ts es) s s' z) ->
  0<=s.last->0<=s.sM->s.sM<=4000->dueN (qr ts es) bin i<=pot (qr ts es) s->4000<s.sM+(f:Int)->zu env->ScOf ts body sc env ->
  match yV E (fun env nm s=>renI ts es env nm body s) bin i env nm ks s with
  | .error _=>∃ t,ur E' (fun sc nm s=>renR ts es sc nm body s) bin i sc nm ks s = .error t/\4000<t.sM/\t.sM<=9000
  | .ok r=>ur E' (fun sc nm s=>renR ts es sc nm body s) bin i sc nm ks s = .ok r
 | [],i,env,sc,nm,s,_,_,_,_,_,_,_,_,_=>by simp only[yV,ur]
 |k :: ks,i,env,sc,nm,s,hE,hG,l0,c0,c1,hp,hf,R,I=>by
  simp only[yV,ur];obtain⟨r,J⟩:∃ r,(if bin=true/\i=1 then renI ts es env nm body s else ((env,nm),s))=r:=⟨_,rfl⟩;obtain⟨l,j⟩:∃ l,(if bin=true/\i=1 then renR ts es sc nm body s else ((sc,nm),s))=l:=⟨_,rfl⟩;have hR:ScOf ts body l.1.1 r.1.1/\l.1.2=r.1.2/\l.2=r.2/\zu r.1.1/\StOk (qr ts es) r.2/\r.2.sM=s.sM/\dueN (qr ts es) bin (i+1)<=pot (qr ts es) r.2:=by
   by_cases hb:bin=true/\i=1
   .rw [if_pos hb]at J j
    subst J;subst j;obtain⟨a1,a2,a3⟩:=qdC (es:=es) (nm:=nm) (s:=s) R I;have a4:=J9 (ts:=ts) (es:=es) (nm:=nm) (body:=body) (s:=s) R;obtain⟨b1,b2,T⟩:=Va (body:=body) (nm:=nm) (env:=env) C l0;have hd:dueN (qr ts es) bin i=(qr ts es:Int):=by simp_all[dueN,if_pos]
    have a0:dueN (qr ts es) bin (i+1)=0:=by simp_all[dueN,if_neg]
    rw[hd]at hp;have P:0<=pot (qr ts es) (renI ts es env nm body s).2:=by
     grind [pot]
    exact⟨a1,a2,a3,a4,⟨b1,by rw[T];exact c0,by rw[T];exact c1,P⟩,T,zOm⟩
   .rw [if_neg hb]at J j
    subst J;subst j;have hd:dueN (qr ts es) bin (i+1)<=dueN (qr ts es) bin i:=by
     unfold dueN;split
     .grind
     omega
    have a5:0<=dueN (qr ts es) bin i:=by grind [dueN]
    exact⟨I,rfl,rfl,R,⟨l0,c0,c1,by grind⟩,rfl,by grind⟩
  rw[J,j];obtain⟨q1,q2,q3,U,q5,q6,q7⟩:=hR;rw[q2,q3];have o:=hE k (zh ..) r.1.1 l.1.1 r.2 q5 zOm U q1;have h2:=fun n' z s'=>hG r.1.1 k n' z r.2 s' (zh ..) q5 U
  generalize E' l.1.1 k r.2=Q at *
  cases hq:E r.1.1 k r.2 with
  |error d =>
   rw[hq]at o;simp only;rw[if_pos o.1];exact⟨_,rfl,o.1,o.2.1⟩
  |ok x =>
   obtain⟨⟨m,y⟩,t⟩:=x;rw[hq]at o;obtain⟨e1,e2,e3⟩:=o;have g:=h2 m y t hq;obtain⟨g1,g2,g3⟩:=Wd g q5;have hc:=g.c1;have a6:=g.p;simp only;rw[if_neg (by rw[e3];omega),e1,e2,e3];have ih:=qdD C (f:=f) (body:=body) (E:=E) (E':=E') (bin:=bin) ks (i+1) r.1.1 l.1.1 r.1.2 t (fun k hk=>hE k (zc _ hk)) (fun env k n' z s s' hk=>hG env k n' z s s' (zc _ hk)) g1.l0 g1.c0 g1.c1 zOm zOm U q1;cases hx:yV E (fun env nm s=>renI ts es env nm body s) bin (i+1) r.1.1 r.1.2 ks t with
   |error d =>
    rw[hx]at ih;obtain⟨t',a1,a2,a3⟩:=ih
    grind
   |ok x =>
    grind
theorem Jf(ts:TS)(es:List (tN×Bool))(i:Free ts es)(hb:∀ p,p∈ts.sT->WfN p.body/\yW ts p.body):∀(f:Nat) (env:IEnv) (sc:List Sb) (n:Nd) (body:Bool) (s:ISt),
  4000<s.sM+(f:Int)->StOk (qr ts es) s->zu env->WfN n->yW ts n->ScOf ts body sc env->OutR (expI ts es f env n body s) (expR ts es f sc n body s).1 (expR ts es f sc n body s).2.1 (expR ts es f sc n body s).2.2
 | 0,env,sc,n,body,s,hf,g,_,_,_,_=>zW1 g.c1
 |f+1,env,sc,n,body,s,hf,g,r,hw,I,l=>by
  have a8:=g.c0;have a9:=g.c1;have p1:(payS 1 s).sM=s.sM+1:=rfl;simp only[expI,expR];by_cases J:s.sM+1<=4000
  case neg =>
   rw[if_neg J,if_neg J];exact⟨by rw[p1];omega,by rw[p1];omega,zSp,zSp⟩
  rw[if_pos J,if_pos J];have C:=(Ql g (n:=1) zOm J).ok g;by_cases h1:n.op=1
  .rw [if_pos h1,if_pos h1]
   unfold Qo vY;rw[l.look];cases hg:getK n.name env with
   |none=>exact⟨rfl,rfl,rfl⟩
   |some v =>
    have hv:=r.sz _ ((Za r.nd).1 hg);have hv:0<=v.size/\v.size<=4000:=hv;simp only;cases P:v.arg with
    |none=>exact⟨rfl,rfl,rfl⟩
    |some a =>
     simp only;have e2:(payS v.size (payS 1 s)).sM=(payS 1 s).sM+v.size:=rfl;by_cases R:(payS 1 s).sM+v.size<=4000
     .rw [if_pos R];exact⟨rfl,rfl,rfl⟩
     .rw [if_neg R]
      exact⟨by rw[e2];omega,by rw[e2];omega,hv.1,hv.2⟩
  rw[if_neg h1,if_neg h1];by_cases h47:n.op=47
  .rw [if_pos h47,if_pos h47]
   obtain⟨p,T,a7⟩:=I n (uq n) h47;have a0:=List.mem_of_find?_eq_some T;rw[T];simp only;have P:=qdB (F:=qr ts es) (f:=f) (E:=fun k s=>expI ts es f env k body s) (E':=fun k s=>expR ts es f sc k body s) p.params n.sD [] [] (payS 1 s)
    (fun k j s g hf=>Jf ts es i hb f env sc k body s hf g r (hw.kid j) (I.kid j) l)
    (fun k n' z s s' j g e=>jT ts i f g r e) C (by rw[p1];omega) .nil (fun o=>rfl) (fun e hm=>absurd hm qN)
   cases U:jw (fun k s=>expI ts es f env k body s) p.params n.sD [] (payS 1 s) with
   |error d =>
    rw[U]at P;obtain⟨t,a1,a2,a3⟩:=P;rw[a1];exact⟨a2,a3,zSp,zSp⟩
   |ok x =>
    obtain⟨own,s'⟩:=x;rw[U]at P;obtain⟨L,a1,a2,a3,a4,a5,a6⟩:=P;rw[a1];obtain⟨b1,b2⟩:=hb p a0;exact Jf ts es i hb f own L p.body true s' zOm a5 a2 b1 b2 ⟨a3,fun h=>absurd h zSp,a4⟩
  .rw [if_neg h47,if_neg h47]
   have j:=qdD i (f:=f) (body:=body) (E:=fun env k s=>expI ts es f env k body s) (E':=fun sc k s=>expR ts es f sc k body s) (bin:=binB n.op) n.sD 0 env sc n.name (payS 1 s)
    (fun k j env sc s g hf r l=>Jf ts es i hb f env sc k body s hf g r (hw.kid j) (I.kid j) l)
    (fun env k n' z s s' j g r e=>jT ts i f g r e) C.l0 C.c0 C.c1 (by
     rw[ZV];have:=g.p
     grind [dueN]) (by rw[p1];omega) r l
   cases U:yV (fun env k s=>expI ts es f env k body s) (fun env o s=>renI ts es env o body s) (binB n.op) 0 env n.name n.sD (payS 1 s) with
   |error d =>
    rw[U]at j;obtain⟨t,a1,a2,a3⟩:=j;rw[a1];exact⟨a2,a3,zSp,zSp⟩
   |ok x =>
    obtain⟨⟨o,ks,m⟩,s'⟩:=x;rw[U]at j;rw[j];exact⟨rfl,rfl,rfl⟩
end
end QY
namespace QZ
open YF Y9 Y10 Y1 YX YB YC P1 P2 PA QE QI QS QT QX QY
section
variable {mu:Mu}
abbrev eXO(ts:TS)(l:List tN)(q:XO):AV := .tup [eWk ts l q.1,eNd q.2.1,aI q.2.2]
theorem We(x:Sb):∀ c,c∈cSb x->HF c:=fun c g=>by
 rcases qM.1 g with g|g
 .rcases qM.1 g with g|g
  .simp only[qz,qN,or_false]at g
   rcases g with rfl|rfl|rfl<;>exact HF.sc _
  grind [qq9]
 grind [qS,HF.sc]
theorem qrA(x:Sb):(cSb x).length=9:=by simp[qq8]
theorem Jg(l:List Sb):zi 9 (l.map cSb):=fun r g=>by
 obtain⟨x,_,rfl⟩:=qo.1 g;refine⟨qrA x,?_⟩;obtain⟨o,⟨a,z,w⟩⟩:=x;cases a<;>simp[yI,go_sem]
theorem qdE(l:List Sb):HF (lSb l):=HF.lst fun r g c i=>by
 obtain⟨x,_,rfl⟩:=qo.1 g;exact We x c i
theorem wkX(ts:TS)(l:List tN)(s:ISt)(sc:List Sb)(n:Nd)(b:Bool):WKs [eWk ts l s,lSb sc,eNd n,aB b] [eWk ts l s,lSb sc,eNd n,aB b] := .zk (wK ts l s) (.zk (qdE sc) (.zk (qO n) (.zs .nil)))
theorem ky(ts:TS)(l:List tN)(q:XO):HF (eXO ts l q):=HF.tup fun x g=>by
 simp only[qz,qN,or_false]at g;rcases g with rfl|rfl|rfl
 .exact wK ts l _
 .exact qO _
 .exact HF.sc _
structure Pre (ts:TS) (es:List (tN×Bool)) (f:Nat) (env:IEnv) (sc:List Sb) (n:Nd) (body:Bool) (s:ISt):Prop where
 fu:4000<s.sM+(f:Int)
 st:StOk (qr ts es) s
 en:zu env
 wf:WfN n
 cl:yW ts n
 so:ScOf ts body sc env
 le:(sc.length:Int)<=s.sM+8
theorem rd0:Rd mu (.agg [aI 0,aS ⟨#[]⟩,aI 0,.lst true [],aI 0]) (eNd nd0) := .agg _ _ rfl fun k x y g i=>by
 match k,g,i with
 | 0,g,i=>cases g;cases i;exact .zsc _
 | 1,g,i=>cases g;cases i;exact .zsc _
 | 2,g,i=>cases g;cases i;exact .zsc _
 | 3,g,i=>cases g;cases i;exact .wk _ true _ (.hf _ (HF.lst fun r j=>absurd j qN))
 | 4,g,i=>cases g;cases i;exact .zsc _
 |k+5,g,i=>cases g
theorem rdZ(ts:TS)(l:List tN)(s:ISt):Rd mu (.tup [eWk ts l s,.agg [aI 0,aS ⟨#[]⟩,aI 0,.lst true [],aI 0],aI 0]) (eXO ts l (s,nd0,0)) := .tup _ _ rfl fun k x y g i=>by
 match k,g,i with
 | 0,g,i=>cases g;cases i;exact .hf _ (wK ts l s)
 | 1,g,i=>grind [rd0]
 | 2,g,i=>cases g;cases i;exact .zsc _
 |k+3,g,i=>cases g
theorem qdF{lo:Nat}{s:AV}{xs:List Sb}{y:Sb}{K:AV->Mu->Prop}(j:OwnF lo mu 9 s (xs.map cSb))(l:xs.length<=100000)(o:∀ av mu',OwnF lo mu' 9 av ((xs++[y]).map cSb)->(∀ i,i<lo->mu'[i]?=mu[i]?)->K av mu') :
  qA qg mu #[251,251] s (.lst true [cSb y]) K:=by
 refine qA.ownF (lo:=lo) (e:=258) (sz:=9) (bt:=112) (zv := .agg [aS ⟨#[]⟩,aS ⟨#[]⟩,aB false,aI 0,aS ⟨#[]⟩,aI 0,.lst true [],aI 0,aI 0]) (xs:=xs.map cSb) (ys:=[cSb y]) zSi zSi zSi rfl rfl zOm zOm j (by simp[qF]) (Jg xs) (Jg [y]) zSo ?_
 grind
abbrev ExpW(ts:TS)(l:List tN)(es:List (tN×Bool))(f:Nat)(sc:List Sb)(n:Nd)(body:Bool)(s:ISt):Prop:=
 qj qg 121 [eWk ts l s,lSb sc,eNd n,aB body] (eXO ts l (expR ts es f sc n body s))
theorem expN(ts:TS)(l:List tN)(es:List (tN×Bool))(f:Nat)(env:IEnv)(sc:List Sb)(n:Nd)(body:Bool)(s:ISt)(p:Pre ts es (f+1) env sc n body s)(j:s.sM+1<=4000)(i:n.op=1):ExpW ts l es (f+1) sc n body s:=by
 have o:=p.st.c0;have I:=p.le;have r:=leafU ts l sc zOm n (payS 1 s) ⟨by show 0<=s.sM+1;omega,by show s.sM+1<=_;omega⟩ (fun e t=>zW1 (p.so.sz e t));unfold ExpW;simp only[expR];rw[if_pos j,if_pos i];have C:qq.wrap (s.sM+1)=s.sM+1:=zWr;have g:¬ 4000<s.sM+1:=zOm;generalize Qo sc n (payS 1 s)=Q at *
 refine qSQ call121 func121 rfl { mt:=[4] } ?_;simp[go_sem,C,g,i,zd];refine tT r (.zk (wK ts l (payS 1 s)) (.zk (qdE sc) (.zk (qO n) .nil))) ?_;simp[go_sem,zd];exact .hf _ (ky ts l (Q.2,Q.1.1,Q.1.2))
theorem expZ(ts:TS)(l:List tN)(es:List (tN×Bool))(f:Nat)(env:IEnv)(sc:List Sb)(n:Nd)(body:Bool)(s:ISt)(p:Pre ts es (f+1) env sc n body s)(i:¬s.sM+1<=4000):ExpW ts l es (f+1) sc n body s:=by
 have j:=p.st.c0;have o:=p.st.c1;unfold ExpW;simp only[expR];rw[if_neg i];have r:qq.wrap (s.sM+1)=s.sM+1:=zWr;have g:4000<s.sM+1:=zOm;refine qSQ call121 func121 rfl { mt:=[4] } ?_;simp[go_sem,r,g,zd]
 grind [rdZ,payS]
def repR(ts : TS)(es : List (tN × Bool))(f : Nat)(sc : List Sb)(n : Nd)(body : Bool)(s : ISt)(p : Pd) : XO := match ua (fun k s => expR ts es f sc k body s) p.params n.sD [] s with
          | .error g=>(g,nd0,0)
          | .ok (own,g)=>expR ts es f own p.body true g
theorem expC(ts:TS)(l:List tN)(es:List (tN×Bool))(f:Nat)(env:IEnv)(sc:List Sb)(n:Nd)(body:Bool)(s:ISt)(p:Pre ts es (f+1) env sc n body s)(j:s.sM+1<=4000)(h47:n.op=47)(g:Pd)(o:(ts.sT.find? fun p=>decide (p.name=n.name))=some g)
  (r:qj qg 168 [eWk ts l (payS 1 s),lSb sc,eNd n,aB body] (eXO ts l (repR ts es f sc n body (payS 1 s) g))):ExpW ts l es (f+1) sc n body s:=by
 have t:=p.st.c0;unfold ExpW;simp only[expR];rw[if_pos j,zIn,if_pos h47,o];simp only;have C:qq.wrap (s.sM+1)=s.sM+1:=zWr;have i:¬ 4000<s.sM+1:=zOm;show qj qg 121 [eWk ts l s,lSb sc,eNd n,aB body] (eXO ts l (repR ts es f sc n body (payS 1 s) g));generalize repR ts es f sc n body (payS 1 s) g=Q at *
 refine qSQ call121 func121 rfl { mt:=[4] } ?_;simp[go_sem,C,i,h47,zd];refine tT r (wkX ts l (payS 1 s) sc n body) ?_;simp[go_sem,zd];exact .hf _ (ky ts l Q)
theorem replW(ts:TS)(h:okTS ts)(l:List tN)(es:List (tN×Bool))(ai:Free ts es)(hb:∀ p,p∈ts.sT->WfN p.body/\yW ts p.body)(f:Nat)(ih:∀ env sc n body s,Pre ts es f env sc n body s->ExpW ts l es f sc n body s)(env:IEnv)(sc:List Sb)(n:Nd)(body:Bool)(s:ISt)(p:Pre ts es f env sc n body s)(h47:n.op=47)
  (T:Pd) (hp:(ts.sT.find? fun p=>decide (p.name=n.name))=some T) (az:T.params.length=n.sD.length):qj qg 168 [eWk ts l s,lSb sc,eNd n,aB body] (eXO ts l (repR ts es f sc n body s T)):=by
 have a9:=List.mem_of_find?_eq_some hp;have b1:=(h.pl T a9).1;have b2:=h.np;obtain⟨i,hi,a3,aj⟩:∃ i,∃ hi:i<ts.sT.length,ts.sT[i]=T/\zr (ckR ts ts.sT.length) n.name=some i:=by
  cases hc:zr (ckR ts ts.sT.length) n.name with
  |none =>
   unfold zr at hc;rw[List.findIdx?_eq_none_iff]at hc;have:=hc T (by show T∈ts.sT.take ts.sT.length;rw[qT];exact a9);have h2:=List.find?_some hp;rw[h2]at this;cases this
  |some i =>
   obtain⟨h1,h2⟩:=Zh (U9 h (qt _)) hc;have h2:i<ts.sT.length:=h2;have h3:=PF.qcA hc h2;have h3:(ts.sT.find? fun p=>decide (p.name=n.name))=some ts.sT[i]:=h3;rw[hp]at h3;exact⟨i,h2,(Option.some.inj h3).symm,rfl⟩
 have cp:=Vl (ckR ts ts.sT.length) (U9 h (qt _)) n.name;rw[aj]at cp;have I:=Zg;have aa:¬(i:Int)<0:=zOm;obtain⟨E',hE⟩:∃ E':Nd->ISt->XO,E'=fun k s=>expR ts es f sc k body s:=⟨_,rfl⟩
 obtain⟨a7,a8⟩:∃ a7,a7=repR ts es f sc n body s T:=⟨_,rfl⟩;have an:∀ k,k∈n.sD->∀ C,StOk (qr ts es) C->s.sM<=C.sM->qj qg 121 [eWk ts l C,lSb sc,eNd k,aB body] (eXO ts l (E' k C)):=fun k hk C J aa=>by
  rw[hE];exact ih env sc k body C ⟨zW1 p.fu,J,p.en,p.wf.kid hk,p.cl.kid hk,p.so,zW1 p.le⟩
 have ao:∀ k,k∈n.sD->∀ C,StOk (qr ts es) C->s.sM<=C.sM->4000<(E' k C).1.sM\/(¬ 4000<(E' k C).1.sM/\Gos (qr ts es) C (E' k C).1 (E' k C).2.2):=fun k hk C J aa=>by
  have ho:=Jf ts es ai hb f env sc k body C (zW1 p.fu) J p.en (p.wf.kid hk) (p.cl.kid hk) p.so;have aq:E' k C=expR ts es f sc k body C:=by rw[hE]
  rw[aq];cases hx:expI ts es f env k body C with
  |error d=>rw[hx]at ho;exact .inl ho.1
  |ok r =>
   obtain⟨⟨m,y⟩,t⟩:=r;rw[hx]at ho;obtain⟨e1,e2,e3⟩:=ho;have g:=jT ts ai f J p.en hx;rw[e2,e3];exact .inr ⟨zW1 g.c1,g⟩
 have ar:∀ t,ua E' T.params n.sD [] s = .error t->a7=(t,nd0,0):=fun t ht=>by
  rw[a8];unfold repR;rw[<-hE,ht]
 have au:∀ own t O,ua E' T.params n.sD [] s = .ok (own,t)->StOk (qr ts es) t->s.sM<=t.sM->zu O->(∀ o,uU o own=getK o O)->(∀ e,e∈own->0<=e.2.size/\e.2.size<=4000)->own.length<=8->qj qg 121 [eWk ts l t,lSb own,eNd T.body,aB true] (eXO ts l a7):=fun own t O ht J aa hO ab ad h8=>by
  have e:a7=expR ts es f own T.body true t:=by rw[a8];unfold repR;rw[<-hE,ht]
  rw[e];have b3:=J.c0;exact ih O own T.body true t ⟨zW1 p.fu,J,hO,(hb T a9).1,(hb T a9).2,⟨ab,fun h=>absurd h zSp,ad⟩,zOm⟩
 rw[<-a8];have ak:=p.st;clear a8 hE ih;refine qSQ call168 func168 rfl { mt:=[4] } ?_;simp[go_sem,zd];refine tT cp (.zk (zo ts) (.zs (.zs .nil))) ?_;simp[go_sem,zd,idxO,aa];refine kM n.sD.length (fun k U=>∃(C:ISt) (L:List Sb) (O:IEnv),U.tm 1=lSb sc/\U.tm 3=aB body/\U.tm 4 = .ptr 0 0/\U.tm 6 = .ip (cNd n)/\U.tm 8 = .ptr 1 0/\U.tm 9 = .ptr 2 0/\U.tm 12=aI i/\U.tm 14=aI k/\U.mu[0]?=some (.arr (cWk ts l C))/\U.mu[1]?=some (.arr zWc)/\U.mu[2]?=some (.arr [aI 0,aS ⟨#[]⟩,aI 0,.lst true [],aI 0])/\OwnF 3 U.mu 9 (U.tm 13) (L.map cSb)/\ua E' T.params n.sD [] s=ua E' (T.params.drop k) (n.sD.drop k) L C/\StOk (qr ts es) C/\s.sM<=C.sM/\zu O/\(∀ o,uU o L=getK o O)/\(∀ e,e∈L->0<=e.2.size/\e.2.size<=4000)/\L.length=k) ?_ ?_
 .exact ⟨s,[],[],zSi,zSi,zSi,zSi,zSi,zSi,zSi,zSi,zSi,zSi,zSi,by simp[go_sem];exact OwnF.nil zSp,rfl,ak,vB _,.nil,fun o=>rfl,fun e he=>absurd he qN,rfl⟩
 rintro k U hk ⟨C,L,O,e1,e3,e4,e6,e8,e9,a2,a4,m0,m1,m2,ho,hI,J,ae,hO,ab,ad,aw⟩;generalize a5:U.tm 13=av at *
 obtain⟨rr,a0⟩:=kj m0 m1 m2;have b4:U.mu.length=rr.length+3:=by rw[a0];rfl
 have b0:n.sD.length<=8:=zOm;by_cases R:k<n.sD.length
 .have a6:k<T.params.length:=by omega
  have w1:=zWk k;rw[zp R,zp a6]at hI;simp only[ua]at hI;have x1:=an n.sD[k] (qs R) C J ae;have x2:=ao n.sD[k] (qs R) C J ae;generalize E' n.sD[k] C=q at *
  clear m0 m1 m2;simp[go_sem,e1,e3,e4,e6,e8,e9,a2,a4,a5,a0,R,a6,hi,a3,I,zd];refine fD [0,1,2,3,4,5,6,7,8,9,10,11,12,17,13,14,15,16] [(0,0,[]),(1,0,[]),(2,0,[]),(3,0,[]),(4,0,[]),(5,0,[]),(6,0,[]),(7,0,[]),(8,1,[]),(9,0,[]),(10,0,[]),(11,0,[]),(12,0,[]),(17,0,[]),(13,2,[0,3,6]),(14,2,[0,3,6]),(15,1,[]),(16,1,[])] zKr zKr zSi ?_;simp[go_sem,e1,e3,e4,e6,e8,e9,a2,a4,a5,a0,R,a6,hi,a3,I,zd];refine tT x1 (wkX ts l C sc n.sD[k] body) ?_;simp[go_sem,e1,e3,e4,e6,e8,e9,a2,a4,a5,a0,R,a6,hi,a3,I,zd];by_cases a1:4000<q.1.sM
  .have ax:a7=(q.1,nd0,0):=ar _ (by rw[hI,if_pos a1])
   simp[go_sem,e1,e3,e4,e6,e8,e9,a2,a4,a5,a0,R,a6,hi,a3,I,zd,a1];rw[ax];exact rdZ ts l q.1
  .rcases x2 with x2|⟨_,g⟩
   .exact absurd x2 a1
   rw[if_neg a1]at hI;simp[go_sem,e1,e3,e4,e6,e8,e9,a2,a4,a5,a0,R,a6,hi,a3,I,zd,a1];refine cJ zKr ?_;simp[go_sem,e1,e3,e4,e6,e8,e9,a2,a4,a5,a0,R,a6,hi,a3,I,zd,a1];obtain⟨g1,g2,g3⟩:=Wd g J;have gz:=g.z0;have hy:(AV.sc (.string T.params[k].1) :: AV.sc (.string ⟨#[]⟩) :: AV.sc (.bool true) :: (cNd q.2.1++[AV.sc (.int .i64 q.2.2)]))=cSb (T.params[k].1,⟨some q.2.1,q.2.2,⟨#[]⟩⟩):=zSi;rw[hy];generalize af:(T.params[k].1,(⟨some q.2.1,q.2.2,⟨#[]⟩⟩:IV))=en at *
   refine qdF (lo:=3) (xs:=L) (y:=en) ?_ zOm ?_
   .have h1:OwnF 3 (U.mu++[Cell.arr (cWk ts l q.1),Cell.arr (cNd q.2.1)]) 9 av (L.map cSb):=YD.Zq ho zSo fun i _ hi=>qI hi
    rw[a0]at h1;have h2:=OwnF.set (i:=0) (c:=Cell.arr (cWk ts l q.1)) h1 zOm;simpa using h2
   intro b5 b6 ag ah;have n0:=ah 0 zOm;have n1:=ah 1 zOm;have n2:=ah 2 zOm;simp at n0 n1 n2;obtain⟨r2,al⟩:=kj n0 n1 n2;simp[go_sem,e1,e3,e4,e6,e8,e9,a2,a4,a5,al,R,a6,hi,a3,I,zd,a1,w1];refine aK ⟨q.1,L++[en],setK en.1 en.2 O,zS1 e1,zS1 e3,zS1 e4,zS1 e6,zS1 e8,zS1 e9,zS1 a2,zSi,zSi,zSi,zSi,?_,?_,g1,?_,?_,?_,?_,?_⟩
   .have h2:=OwnF.set (i:=0) (c:=Cell.arr (cWk ts l q.1)) ag zOm
    simp[go_sem];rw[al]at ag;simpa using ag
   .rw [hI,<-af]
   .omega
   .rw [<-af];exact hO.set ⟨gz,g3⟩
   .intro o
    rw[Wc,vo,ab];by_cases e:en.1=o
    .rw [if_pos e,if_pos e.symm]
    .rw [if_neg e,if_neg fun x=>e x.symm]
   .intro e he
    rcases qM.1 he with he|he
    .exact ad e he
    .rw [qS]at he;subst he;rw[<-af];exact⟨gz,g3⟩
   .simp [aw]
 .simp [go_sem,e1,e3,e4,e6,e8,e9,a2,a4,a5,a0,R,hi,a3,I,zd]
  refine fD [0,1,2,3,4,5,6,7,8,9,10,11,12,15,13,14] [(0,0,[]),(1,0,[]),(2,0,[]),(3,0,[]),(4,0,[]),(5,0,[]),(6,0,[]),(7,0,[]),(8,0,[]),(9,1,[]),(10,0,[]),(11,0,[]),(12,0,[]),(15,0,[]),(13,1,[]),(14,1,[])] zKr zKr zSi ?_;simp[go_sem,e1,e3,e4,e6,e8,e9,a2,a4,a5,a0,R,hi,a3,I,zd];refine fQ (qD.freeze (args1:=[eWk ts l C,lSb L,eNd T.body,aB true]) (fun j=>decide (3<=j)) ⟨.inl rfl,.inr ?_,.inl rfl,.inl rfl,trivial⟩ (qj.toSound _ (au L C O ?_ J ae hO ab ad zOm) (wkX ts l C L T.body true))) ?_ ?_
  .have h1:=Y13.XY ho (Jg L).ok fun r hr c hc=>by
    obtain⟨x,_,rfl⟩:=qo.1 hr;exact We x c hc
   rw[a0]at h1;exact h1
  .rw [hI,Vv zOm,Vv zOm];rfl
  .rintro r m ⟨hv,rfl⟩
   cases hv;simp[go_sem,cutM,zd,e1,e3,e4,e6,e8,e9];exact .hf _ (ky ts l a7)
  .rintro r m ⟨hv,rfl⟩
   cases hv
end
end QZ
end Go.Proofs.YtahmfpfdgiemoaaGreatDoor
set_option maxHeartbeats 1000000
namespace Go.Ev
theorem awp.cut{P:qb}{pl:Pol}{l j g C:Code}{i:Nat}{Q:qV->St->Prop}{st:St}(J:St->Prop)
  (h:awp P pl l (seqQ (awp P pl j (seqQ (Keep J .mk) (vS i (seqQ (awp P pl C Q) Q)))) Q) st)
  (o:∀ st,J st->awp P pl g (vS i (seqQ (awp P pl C Q) Q)) st):awp P pl (.seq l (.seq (.block i (.seq j g)) C)) Q st:=by
 refine awp.mono l (Q:=seqQ (awp P pl j (seqQ (Keep J .mk) (vS i (seqQ (awp P pl C Q) Q)))) Q) h (fun e st h=>?_);cases e with
 |normal =>
  refine awp.mono j (Q:=seqQ (Keep J .mk) (vS i (seqQ (awp P pl C Q) Q))) h (fun e st h=>?_);cases e with
  |normal=>exact o st h
  |exit i=>exact h
  |ret=>exact h
  |pan v=>exact h
 |exit i=>exact h
 |ret=>exact h
 |pan v=>exact h
theorem qrB{K:St->Prop}(J:St->Prop){st:St}(h:FzQ (fun _=>J) (.exit 0) st)(k:∀ st2,J st2->K st2):FzQ (fun _ st=>K st) (.exit 0) st:=by
 obtain⟨g,f,q,j⟩:=h;exact⟨g,f,q,k _ j⟩
end Go.Ev
namespace Go.Proofs.YtahmfpfdgiemoaaGreatDoor
open Go Go.Ev Go.Proofs Tryz
namespace RA
open YF Y9 Y10 Y1 YX YA YB YC P1 P2 PA QD QE QK QX QY QZ
section
variable {av:AV}{es:List (tN×Bool)}{l:List tN}
theorem four{J:Type}{l:List J}{a b c d:J}(g:l[0]?=some a)(i:l[1]?=some b)(j:l[2]?=some c)(o:l[3]?=some d):∃ r,l=a :: b :: c :: d :: r:=by
 match l,g,i,j,o with
 |_ :: _ :: _ :: _ :: r,g,i,j,o =>
  grind
def resK(n:Nd)(acc:List Nd)(z:Int):Except ISt ((tN×List Nd×Int)×ISt)->XO
 | .error s=>(s,nd0,0)
 | .ok ((o,ks,m),s)=>(s,.mk n.op o n.n (acc++ks) n.pos,z+m)
structure AtK (ts:TS) (l:List tN) (es:List (tN×Bool)) (n:Nd) (body:Bool) (s:ISt) (k:Nat) (sc2:List Sb) (env2:IEnv) (nm2:tN) (s3:ISt) (acc:List Nd) (av:AV) (z:Int) (st:St):Prop where
 e3:st.tm 3=aB body
 e4:st.tm 4 = .ptr 0 0
 e6:st.tm 6 = .ip (cNd n)
 e8:st.tm 8 = .ptr 1 0
 e9:st.tm 9 = .ptr 2 0
 e11:st.tm 11 = .ptr 3 0
 e12:st.tm 12=aI z
 e13:st.tm 13=aI k
 m0:st.mu[0]?=some (.arr (cWk ts l s3))
 m1:st.mu[1]?=some (.arr zWc)
 m2:st.mu[2]?=some (.arr [aI 0,aS ⟨#[]⟩,aI 0,.lst true [],aI 0])
 m3:st.mu[3]?=some (.arr [aI n.op,aS nm2,aI n.n,av,aI n.pos])
 ho:OwnF 4 st.mu 5 av (acc.map cNd)
 so:ScOf ts body sc2 env2
 en:zu env2
 al:acc.length=k
 l0:0<=s3.last
 c0:s.sM+1<=s3.sM
 c1:s3.sM<=4000
 z1:0<=z
 z2:z<=1+4000*(k:Int)
theorem AtK.same{ts:TS}{n:Nd}{body:Bool}{s:ISt}{k:Nat}{j:List Sb}{i:IEnv}{o:tN}{C:ISt}{acc:List Nd}{z:Int}{st g:St}(A:AtK ts l es n body s k j i o C acc av z st)
  (I:g.tm 3=aB body) (J:g.tm 4 = .ptr 0 0) (P:g.tm 6 = .ip (cNd n)) (R:g.tm 8 = .ptr 1 0) (T:g.tm 9 = .ptr 2 0) (p:g.tm 11 = .ptr 3 0) (r:g.tm 12=aI z) (t:g.tm 13=aI k) (em:g.mu=st.mu):AtK ts l es n body s k j i o C acc av z g:=
 ⟨I,J,P,R,T,p,r,t,by rw[em];exact A.m0,by rw[em];exact A.m1,by rw[em];exact A.m2,by rw[em];exact A.m3,by rw[em];exact A.ho,A.so,A.en,A.al,A.l0,A.c0,A.c1,A.z1,A.z2⟩
theorem qdG{g lo sz:Nat}{mu mu':Mu}{xs:List (List AV)}(h:OwnF g mu sz av xs)(i:∀ b s o q,av = .sl b s o q->b<lo)(p:g<=mu'.length)(r:∀ j,g<=j->j<lo->mu'[j]?=mu[j]?):OwnF g mu' sz av xs:=by
 obtain⟨t,l,_⟩:=h;refine⟨?_,l,p⟩;rcases t with rfl|⟨b,rfl,C⟩
 .exact .inl rfl
 .exact .inr ⟨b,rfl,by rw[r b (l b _ _ _ rfl) (i b _ _ _ rfl)];exact C⟩
theorem AtK.keep{ts:TS}{n:Nd}{body:Bool}{s:ISt}{k:Nat}{p:List Sb}{i:IEnv}{r:tN}{R:ISt}{acc:List Nd}{z:Int}{st g:St}(A:AtK ts l es n body s k p i r R acc av z st)
  (T:g.tm 3=aB body) (U:g.tm 4 = .ptr 0 0) (e6:g.tm 6 = .ip (cNd n)) (e8:g.tm 8 = .ptr 1 0) (e9:g.tm 9 = .ptr 2 0) (C:g.tm 11 = .ptr 3 0) (I:g.tm 12=aI z) (J:g.tm 13=aI k) (lo:Nat) (h4:4<=lo) (P:∀ b s o q,av = .sl b s o q->b<lo) (hl:4<=g.mu.length) (t:∀ j,j<lo->g.mu[j]?=st.mu[j]?):AtK ts l es n body s k p i r R acc av z g:=
 ⟨T,U,e6,e8,e9,C,I,J,by rw[t 0 zOm];exact A.m0,by rw[t 1 zOm];exact A.m1,by rw[t 2 zOm];exact A.m2,by rw[t 3 zOm];exact A.m3,qdG A.ho P hl (fun j _=>t j),A.so,A.en,A.al,A.l0,A.c0,A.c1,A.z1,A.z2⟩
theorem qrC{mu:Mu}{lo:Nat}{s x:AV}{xs ys:List Sb}{K:AV->Mu->Prop}(j:OwnF lo mu 9 s (xs.map cSb))(l:qF mu x=some (ys.map cSb))(r:xs.length+ys.length<=100000)(o:∀ av mu',OwnF lo mu' 9 av ((xs++ys).map cSb)->(∀ i,i<lo->mu'[i]?=mu[i]?)->K av mu') :
  qA qg mu #[251,251] s x K:=by
 refine qA.ownF (lo:=lo) (e:=258) (sz:=9) (bt:=112) (zv := .agg [aS ⟨#[]⟩,aS ⟨#[]⟩,aB false,aI 0,aS ⟨#[]⟩,aI 0,.lst true [],aI 0,aI 0]) (xs:=xs.map cSb) (ys:=ys.map cSb) zSi zSi zSi rfl rfl zOm zOm j l (Jg xs) (Jg ys) zSo ?_;intro av mu' h p;exact o av mu' (by rw[za];exact h) p
theorem expK(ts:TS)(h:okTS ts)(l:List tN)(es:List (tN×Bool))(t:Tn l es)(hl:l.length<=400000)(hF:qr ts es<=200000)(b5:Free ts es)(hb:∀ p,p∈ts.sT->WfN p.body/\yW ts p.body)(f:Nat)(ih:∀ env sc n body s,Pre ts es f env sc n body s->ExpW ts l es f sc n body s)
  (env:IEnv) (sc:List Sb) (n:Nd) (body:Bool) (s:ISt) (p:Pre ts es (f+1) env sc n body s) (hc:s.sM+1<=4000) (h1:¬n.op=1) (h47:¬n.op=47):ExpW ts l es (f+1) sc n body s:=by
 have dj:=p.st.c0;have dk:=p.st.c1;have dm:=p.wf.len;obtain⟨E',hE⟩:∃ E':List Sb->Nd->ISt->XO,E'=fun sc k s=>expR ts es f sc k body s:=⟨_,rfl⟩
 obtain⟨R',bh⟩:∃ R':List Sb->tN->ISt->(List Sb×tN)×ISt,R'=fun sc nm s=>renR ts es sc nm body s:=⟨_,rfl⟩
 have bi:∀ k,k∈n.sD->∀ T I sk,StOk (qr ts es) sk->s.sM+1<=sk.sM->zu T->ScOf ts body I T->(I.length:Int)<=sk.sM+8->qj qg 121 [eWk ts l sk,lSb I,eNd k,aB body] (eXO ts l (E' I k sk)):=fun k hk T I sk b6 ck b7 bj bk=>by
  rw[hE];exact ih T I k body sk ⟨zW1 p.fu,b6,b7,p.wf.kid hk,p.cl.kid hk,bj,bk⟩
 have bm:∀ k,k∈n.sD->∀ T I sk,StOk (qr ts es) sk->s.sM+1<=sk.sM->zu T->ScOf ts body I T->4000<(E' I k sk).1.sM\/(¬ 4000<(E' I k sk).1.sM/\Gos (qr ts es) sk (E' I k sk).1 (E' I k sk).2.2):=fun k hk T I sk b6 ck b7 bj=>by
  have ho:=Jf ts es b5 hb f T I k body sk (zW1 p.fu) b6 b7 (p.wf.kid hk) (p.cl.kid hk) bj;have cm:E' I k sk=expR ts es f I k body sk:=by rw[hE]
  rw[cm];cases hx:expI ts es f T k body sk with
  |error d=>rw[hx]at ho;exact .inl ho.1
  |ok r =>
   obtain⟨⟨m,y⟩,t⟩:=r;rw[hx]at ho;obtain⟨e1,e2,e3⟩:=ho;have g:=jT ts b5 f b6 b7 hx;rw[e2,e3];exact .inr ⟨zW1 g.c1,g⟩
 obtain⟨ay,bb⟩:∃ ay,ay=resK n [] 1 (ur E' R' (binB n.op) 0 sc n.name n.sD (payS 1 s)):=⟨_,rfl⟩;have bc:expR ts es (f+1) sc n body s=ay:=by
  simp only[expR];rw[if_pos hc,if_neg h1,if_neg h47,bb,hE,bh];cases ur (fun sc k s=>expR ts es f sc k body s) (fun sc nm s=>renR ts es sc nm body s) (binB n.op) 0 sc n.name n.sD (payS 1 s) with
  |error e=>rfl
  |ok r=>rfl
 unfold ExpW;rw[bc];clear hE bc ih;have be:StOk (qr ts es) (payS 1 s):=(Ql p.st zOm hc).ok p.st;have w1:qq.wrap (s.sM+1)=s.sM+1:=zWr;have bk:¬ 4000<s.sM+1:=zOm;have cp:=yI n;refine qSQ call121 func121 rfl { mt:=[4] } ?_;simp[go_sem,w1,bk,h1,h47,cp];refine kM n.sD.length (fun k U=>∃(full:Bool) (I:List Sb) (T:IEnv) (aa:tN) (s2:ISt) (ae:List Nd) (av:AV) (z:Int),U.tm 1 = .lst full (I.map cSb)/\AtK ts l es n body s k I T aa s2 ae av z U/\(I.length:Int)+(if k<=1 then 1 else 0)<=s2.sM+8/\dueN (qr ts es) (binB n.op) k<=pot (qr ts es) s2/\(k<=1->aa=n.name)/\resK n ae z (ur E' R' (binB n.op) k I aa (n.sD.drop k) s2)=ay) ?_ ?_
 .refine ⟨false,sc,env,n.name,payS 1 s,[],.lst true [],1,zSi,⟨zSi,zSi,by simp[go_sem,yI n],zSi,zSi,zSi,zSi,zSi,by simp[go_sem];exact⟨rfl,rfl⟩,zSi,zSi,zSi,by simp[go_sem];exact OwnF.nil zSp,p.so,p.en,rfl,be.l0,by show _<=s.sM+1;omega,be.c1,zOm,zOm⟩,by show _<=s.sM+1+8;have:=p.le;simp;omega,?_,fun _=>rfl,bb.symm⟩
  rw[ZV];have:=p.st.p;unfold dueN;split<;>omega
 .rintro k U hk ⟨full,I,T,aa,s2,ae,av,z,J,A,ag,ao,b8,hI⟩
  obtain⟨rr,a0⟩:=four A.m0 A.m1 A.m2 A.m3;have e3:=A.e3;have e4:=A.e4;have e6:=A.e6;have e8:=A.e8;have e9:=A.e9;have a5:=A.e11;have a6:=A.e12;have a7:=A.e13;have aj:=A.ho.one;have ak:=A.ho.cells;by_cases a8:k<n.sD.length
  .have w2:=zWk k
   rw[zp a8]at hI;simp only[ur]at hI;refine awp.cut (fun U=>∃(full:Bool) (P:Nat) (sl:AV) (ad:List Sb) (ah:IEnv) (au:tN) (s3:ISt) (av:AV),(if binB n.op=true/\k=1 then R' I aa s2 else ((I,aa),s2))=((ad,au),s3)/\U.tm 1=sl/\(sl = .lst full (ad.map cSb)\/(OwnF P U.mu 9 sl (ad.map cSb)/\(∀ b s o q,av = .sl b s o q->b<P)/\4<=P))/\AtK ts l es n body s k ad ah au s3 ae av z U/\(ad.length:Int)+(if k+1<=1 then 1 else 0)<=s3.sM+8/\dueN (qr ts es) (binB n.op) (k+1)<=pot (qr ts es) s3/\(k+1<=1->au=n.name)) ?_ ?_
   .clear bi bm
    by_cases ar:k=1
    .subst ar
     have bg:=b8 (qt _);have dh:U.mu.length=rr.length+4:=by rw[a0];rfl
     have b0:∀ b s o q,av = .sl b s o q->b<rr.length+4:=fun b s o q e=>by
      rcases A.ho.1 with h|⟨c,h,hc⟩
      .rw [h]at e;cases e
      .rw [h]at e;cases e;have:=(qm.1 hc).1;omega
     have ab:(1:Int)<n.sD.length:=zOm;have cq:=A.c0;have b9:=A.l0;have cr:=A.c1;by_cases an:binB n.op=true
     .have a9:n.op=15\/n.op=45\/n.op=46:=by simpa[binB,or_assoc] using an
      have dn:=h.ns;have dp:=h.nf;have dq:qr ts es<=l.length+40:=by have:=t.len;unfold qr;omega
      have cs:okNm ts:=⟨h.sl,zOm,zOm,fun f hf=>zW1 (h.fl f hf)⟩;have cn:=KZ ts cs n.name;have ax:=KY ts n.name;have ct:(named ts n.name).2=(means ts n.name).length:=by rw[kh h]
      rw[ct]at cn;generalize (named ts n.name).1=C at *
      have bv:StOk (qr ts es) s2:=⟨b9,zOm,cr,zW1 (ZW (qr ts es) (binB n.op) 1)⟩;have cu:=bv.last;have cf:=qq7 ts h l es t hl s2 ⟨b9,zOm⟩ (b5 s2.last b9);by_cases af:body=true\/means ts n.name≠[]
      .have hq:(if binB n.op=true/\1=1 then R' I aa s2 else ((I,aa),s2))=((I++[(n.name,⟨none,0,vN (zy ts es (qr ts es) s2.last)⟩)],vN (zy ts es (qr ts es) s2.last)),⟨zy ts es (qr ts es) s2.last,s2.sM⟩):=by
        rw[if_pos ⟨an,rfl⟩,bh,bg];show renR ts es I n.name body s2=_;unfold renR;rw[if_pos af]
       have cv:body=true\/(body=false/\0<(means ts n.name).length):=by
        cases body with
        |true=>exact .inl rfl
        |false=>exact .inr ⟨rfl,List.length_pos_iff.2 (af.resolve_left zSp)⟩
       clear hI;have bw:renR ts es I n.name body s2=((I++[(n.name,⟨none,0,vN (zy ts es (qr ts es) s2.last)⟩)],vN (zy ts es (qr ts es) s2.last)),⟨zy ts es (qr ts es) s2.last,s2.sM⟩):=by
        unfold renR;rw[if_pos af]
       obtain⟨a1,a2,a3⟩:=qdC (es:=es) (nm:=n.name) (s:=s2) A.en A.so;have a4:=J9 (ts:=ts) (es:=es) (nm:=n.name) (body:=body) (s:=s2) A.en;obtain⟨b1,b2,b3⟩:=Va (body:=body) (nm:=n.name) (env:=T) b5 b9;rw[bw]at a1 a3;rw[<-a3]at b1 b2;simp only at b1 b2 a1;have bn:dueN (qr ts es) (binB n.op) 1=(qr ts es:Int):=by unfold dueN;rw[if_pos ⟨an,zOm⟩]
       have bo:dueN (qr ts es) (binB n.op) 2=0:=by unfold dueN;rw[zIn]
       rw[bn]at ao;unfold pot at ao;generalize (renI ts es T n.name body s2).1.1=ah at *
       clear a2 a3 b3;generalize dr:zy ts es (qr ts es) s2.last=R at *
       rcases a9 with a9|a9|a9<;>rcases cv with aw|⟨aw,cw⟩
       all_goals
        simp[go_sem,e3,e4,e6,e8,e9,a5,a6,a7,J,a0,a8,ab,a9,zd];refine tT cn (.zk (zo ts) (.zs .nil)) ?_;simp[go_sem,e3,e4,e6,e8,e9,a5,a6,a7,J,a0,a8,ab,a9,zd,ax.len];rw[if_pos ax.one];generalize putCells _ 0 C=PC
        first
        |simp[go_sem,e3,e4,e6,e8,e9,a5,a6,a7,J,a0,a8,ab,a9,zd,aw,cw]
        |simp[go_sem,e3,e4,e6,e8,e9,a5,a6,a7,J,a0,a8,ab,a9,zd,aw]
        refine tT cf (.zk (wK ts l s2) .nil) ?_;simp[go_sem,e3,e4,e6,e8,e9,a5,a6,a7,J,a0,a8,ab,a9,zd,aw];refine qk.move 2 2 zKr zKr ?_ ?_
        all_goals
         simp[go_sem,e3,e4,e6,e8,e9,a5,a6,a7,J,a0,a8,ab,a9,zd,aw];refine qrC (lo:=rr.length+6) (xs:=[]) (ys:=I) (OwnF.nil zSp) (by simp[qF]) (by simp at ag⊢;omega) ?_;intro ds dt cx ar;simp[go_sem,e3,e4,e6,e8,e9,a5,a6,a7,J,a0,a8,ab,a9,zd,aw];refine qdF (y:=(n.name,⟨none,0,vN R⟩)) cx (by simp at ag⊢;omega) ?_;intro cy du az ai;have n0:=(ai 0 zOm).trans (ar 0 zOm);have n1:=(ai 1 zOm).trans (ar 1 zOm);have n2:=(ai 2 zOm).trans (ar 2 zOm);have n3:=(ai 3 zOm).trans (ar 3 zOm);simp at n0 n1 n2 n3;simp[go_sem,e3,e4,e6,e8,e9,a5,a6,a7,J,a8,ab,a9,zd,aw];refine aK ⟨false,rr.length+6,cy,I++[(n.name,⟨none,0,vN R⟩)],ah,vN R,⟨R,s2.sM⟩,av,hq,zSi,.inr ⟨zVs az,?_,zOm⟩,⟨zS2 e3 aw,zS1 e4,zS1 e6,zS1 e8,zS1 e9,zS1 a5,zS1 a6,zS1 a7,zS1 n0,zS1 n1,zS1 n2,zS2 n3 a9,?_,a1,a4,A.al,b1,A.c0,A.c1,A.z1,A.z2⟩,?_,?_,fun h=>zOm⟩
         .intro b s o q e;have:=b0 b s o q e;omega
         .simp only[qE]
          refine qdG A.ho b0 (zW1 az.2.2) fun j h4 hj=>?_
          obtain⟨i,rfl⟩:∃ i,j=i+4:=⟨j-4,zOm⟩;rw[ai _ zOm,ar _ zOm,a0];simp only[vL];rw[zGa]
         .simp at ag⊢;omega
         .rw [bo];unfold pot;simp only;omega
      .have ca:body=false:=by cases body with
        |true=>exact absurd (.inl rfl) af
        |false=>rfl
       have da:means ts n.name=[]:=Classical.byContradiction fun x=>af (.inr x)
       have hq:(if binB n.op=true/\1=1 then R' I aa s2 else ((I,aa),s2))=((I,aa),s2):=by
        rw[if_pos ⟨an,rfl⟩,bh,bg];show renR ts es I n.name body s2=_;unfold renR;rw[if_neg af]
       rcases a9 with a9|a9|a9
       all_goals
        simp[go_sem,e3,e4,e6,e8,e9,a5,a6,a7,J,a0,a8,ab,a9,zd];refine tT cn (.zk (zo ts) (.zs .nil)) ?_;simp[go_sem,e3,e4,e6,e8,e9,a5,a6,a7,J,a0,a8,ab,a9,zd,ax.len];rw[if_pos ax.one];generalize putCells _ 0 C=PC;simp[go_sem,e3,e4,e6,e8,e9,a5,a6,a7,J,a0,a8,ab,a9,zd,ca,da];refine aK ⟨full,rr.length+5,.lst full (I.map cSb),I,T,aa,s2,av,hq,zS1 J,.inl rfl,A.keep (zS2 e3 ca) (zS1 e4) (zS1 e6) (zS1 e8) (zS1 e9) (zS1 a5) (zS1 a6) (zS1 a7) (rr.length+4) zOm ?_ zSi (fun j hj=>?_),?_,?_,fun h=>zOm⟩
        .exact b0
        .simp only[qE]
         rw[a0]
         match j,hj with
         | 0,_=>rfl
         | 1,_=>rfl
         | 2,_=>rfl
         | 3,_=>simp[a9]
         |i+4,hj =>
          simp only[vL];rw[zGa]
        .simp at ag⊢;omega
        .have bn:dueN (qr ts es) (binB n.op) 1=(qr ts es:Int):=by unfold dueN;rw[if_pos ⟨an,zOm⟩]
         have bo:dueN (qr ts es) (binB n.op) 2=0:=by unfold dueN;rw[zIn]
         rw[bn]at ao;rw[bo];omega
     .have cb:¬n.op=15:=fun e=>an (by simp[binB,e])
      have cc:¬n.op=45:=fun e=>an (by simp[binB,e])
      have cd:¬n.op=46:=fun e=>an (by simp[binB,e])
      simp[go_sem,e3,e4,e6,e8,e9,a5,a6,a7,J,a0,a8,ab,cb,cc,cd,zd];refine aK ⟨full,4,.lst full (I.map cSb),I,T,aa,s2,av,by rw[if_neg (fun x=>an x.1)],zS1 J,.inl rfl,A.same (zS1 e3) (zS1 e4) (zS1 e6) (zS1 e8) (zS1 e9) (zS1 a5) (zS1 a6) (zS1 a7) (zS1 a0),?_,?_,fun h=>zOm⟩
      .simp at ag⊢;omega
      .rw [<-UO (fun x=>an x.1)];exact ao
    .have cg:¬(k:Int)=1:=by omega
     simp[go_sem,e3,e4,e6,e8,e9,a5,a6,a7,J,a0,a8,cg,zd];refine aK ⟨full,4,.lst full (I.map cSb),I,T,aa,s2,av,by rw[if_neg (fun x=>ar x.2)],zS1 J,.inl rfl,A.same (zS1 e3) (zS1 e4) (zS1 e6) (zS1 e8) (zS1 e9) (zS1 a5) (zS1 a6) (zS1 a7) (zS1 a0),?_,?_,fun h=>b8 zOm⟩
     .split at ag<;>split<;>omega
     .rw [<-UO (fun x=>ar x.2)];exact ao
   .rintro U ⟨full,P,sl,ad,ah,au,s3,av,hq,J,bq,A,ag,ao,b8⟩
    rw[hq]at hI;simp only at hI;have b4:StOk (qr ts es) s3:=⟨A.l0,zW1 A.c0,A.c1,zW1 (ZW (qr ts es) (binB n.op) (k+1))⟩;have br:(ad.length:Int)<=s3.sM+8:=by split at ag<;>omega
    have x1:=bi n.sD[k] (qs a8) ah ad s3 b4 A.c0 A.en A.so br;have x2:=bm n.sD[k] (qs a8) ah ad s3 b4 A.c0 A.en A.so;generalize E' ad n.sD[k] s3=q at *
    clear bi bm;rw[qhQ,qhR];refine qk.fz (qrB (fun U=>∃ full,U.tm 1 = .lst full (ad.map cSb)/\AtK ts l es n body s k ad ah au s3 ae av z U) ?_ ?_)
    .rcases bq with bq|⟨db,b0,h4⟩
     .exact FzQ.skip ⟨full,by rw[J,bq],A⟩
     .refine FzQ.own (d:=1) J db (Jg ad) (fun r hr c hc=>by obtain⟨x,_,rfl⟩:=qo.1 hr;exact We x c hc) ?_
      intro dc bs dv ai;refine⟨bs,zSi,A.keep (by simp[go_sem,A.e3]) (by simp[go_sem,A.e4]) (by simp[go_sem,A.e6]) (by simp[go_sem,A.e8]) (by simp[go_sem,A.e9]) (by simp[go_sem,A.e11]) (by simp[go_sem,A.e12]) (by simp[go_sem,A.e13]) P h4 b0 ?_ ?_⟩
      .have:=A.ho.2.2;simp only[qE];omega
      .intro j hj;simp only[qE];exact ai j hj
    rintro U ⟨full,J,A⟩;obtain⟨rr,a0⟩:=four A.m0 A.m1 A.m2 A.m3;have e3:=A.e3;have e4:=A.e4;have e6:=A.e6;have e8:=A.e8;have e9:=A.e9;have a5:=A.e11;have a6:=A.e12;have a7:=A.e13;have aj:=A.ho.one;have ak:=A.ho.cells;refine fD [0,1,2,3,4,5,6,7,8,9,10,11,12,17,13,14,15,16] [(0,0,[]),(1,0,[]),(2,0,[]),(3,0,[]),(4,0,[]),(5,0,[]),(6,0,[]),(7,0,[]),(8,1,[]),(9,0,[]),(10,0,[]),(11,0,[]),(12,0,[]),(17,0,[]),(13,2,[0,3,6]),(14,2,[0,3,6]),(15,1,[]),(16,1,[])] zKr zKr zSi ?_;simp[go_sem,e3,e4,e6,e8,e9,a5,a6,a7,J,a0,a8,zd,aj,ak];refine tT x1 (.zk (wK ts l s3) (.cons (WK.lst fun r hr c hc=>by
     obtain⟨x,_,rfl⟩:=qo.1 hr;exact We x c hc) (.zk (qO _) (.zs .nil)))) ?_
    simp[go_sem,e3,e4,e6,e8,e9,a5,a6,a7,J,a0,a8,zd,aj,ak];by_cases aq:4000<q.1.sM
    .rw [if_pos aq]at hI
     have hI:ay=(q.1,nd0,0):=hI.symm;simp[go_sem,e3,e4,e6,e8,e9,a5,a6,a7,J,a0,a8,zd,aj,ak,aq];rw[hI];exact rdZ ts l q.1
    .rcases x2 with x2|⟨_,g⟩
     .exact absurd x2 aq
     rw[if_neg aq]at hI;simp[go_sem,e3,e4,e6,e8,e9,a5,a6,a7,J,a0,a8,zd,aj,ak,aq];obtain⟨g1,g2,g3⟩:=Wd g b4;have gz:=g.z0;have dw:=g.cz;have dd:=g.c1;have gp:=g.p;have dx:=A.z1;have dy:=A.z2;have cq:=A.c0;have de:=A.al;have di:=A.ho.2.2;refine YD.UQ (lo:=4) (xs:=ae) ?_ zOm ?_
     .have h1:OwnF 4 (U.mu++[Cell.arr (cWk ts l q.1),Cell.arr (cNd q.2.1)]) 5 av (ae.map cNd):=YD.Zq A.ho zSo fun i _ hi=>qI hi
      rw[a0]at h1;have h2:=OwnF.set (i:=0) (c:=Cell.arr (cWk ts l q.1)) h1 zOm;simpa using h2
     intro ch dc az ai;have n0:=ai 0 zOm;have n1:=ai 1 zOm;have n2:=ai 2 zOm;have n3:=ai 3 zOm;simp at n0 n1 n2 n3;obtain⟨r2,cj⟩:=four n0 n1 n2 n3;have bt:=az.one;have bu:=az.cells;have w3:qq.wrap (z+q.2.2)=z+q.2.2:=zWr;simp[go_sem,e3,e4,e6,e8,e9,a5,a6,a7,J,cj,a8,zd,bt,bu,aq,w2,w3];refine aK ⟨full,ad,ah,au,q.1,ae++[q.2.1],ch,z+q.2.2,zS1 J,⟨zS1 e3,zS1 e4,zS1 e6,zS1 e8,zS1 e9,zS1 a5,zSi,zSi,zSi,zSi,zSi,zSi,?_,A.so,A.en,zP1 de,g1.l0,zOm,dd,zOm,zOm⟩,zOm,zOm,b8,?_⟩
     .have h2:=OwnF.set (i:=3) (c:=Cell.arr [aI n.op,aS au,aI n.n,ch,aI n.pos]) az zOm
      rw[cj]at h2;simpa[go_sem] using h2
     .rw [<-hI]
      generalize ur E' R' (binB n.op) (k+1) ad au (List.drop (k+1) n.sD) q.1=X;cases X with
      |error e=>rfl
      |ok r =>
       obtain⟨⟨a,b,c⟩,d⟩:=r;simp[resK];omega
  .simp [go_sem,e3,e4,e6,e8,e9,a5,a6,a7,J,a0,a8,zd,aj,ak]
   refine fD [0,1,2,5,3,4] [(0,0,[]),(1,0,[]),(2,0,[]),(5,0,[]),(3,1,[1]),(4,1,[])] zKr zKr zSi ?_;simp[go_sem,e3,e4,e6,e8,e9,a5,a6,a7,J,a0,a8,zd,aj,ak];rw[Vv zOm]at hI;have hI:ay=(s2,.mk n.op aa n.n ae n.pos,z):=by rw[<-hI];simp[ur,resK]
   rw[hI];refine .tup _ _ rfl fun k x y hx hy=>?_
   match k,hx,hy with
   | 0,hx,hy=>cases hx;cases hy;exact .hf _ (wK ts l s2)
   | 1,hx,hy =>
    cases hx;cases hy;have df:eNd (.mk n.op aa n.n ae n.pos) = .agg [aI n.op,aS aa,aI n.n,.lst false (ae.map cNd),aI n.pos]:=by
     show AV.agg (cNd _)=_;rw[yI];rfl
    show Rd _ _ (eNd (.mk n.op aa n.n ae n.pos));rw[df];refine .agg _ _ rfl fun k x y hx hy=>?_
    match k,hx,hy with
    | 0,hx,hy=>cases hx;cases hy;exact .zsc _
    | 1,hx,hy=>cases hx;cases hy;exact .zsc _
    | 2,hx,hy=>cases hx;cases hy;exact .zsc _
    | 3,hx,hy =>
     cases hx;cases hy;have h1:=OwnF.set (i:=1) (c:=Cell.arr (cWk ts l s2)) A.ho zOm;have h2:=OwnF.set (i:=2) (c:=Cell.arr [aI n.op,aS aa,aI n.n,av,aI n.pos]) h1 zOm;rw[a0]at h2;exact h2.1.rd (YD.UP ae).ok fun r hr c hc=>by
      obtain⟨x,_,rfl⟩:=qo.1 hr;exact vG x c hc
    | 4,hx,hy=>cases hx;cases hy;exact .zsc _
    |k+5,hx,hy=>cases hx
   | 2,hx,hy=>cases hx;cases hy;exact .zsc _
   |k+3,hx,hy=>cases hx
end
end RA
namespace RB
open YF Y9 Y1 YX YZ YB YC YE YG YH P1 P2 Q4 Q6 PF QE QT QW QX QY QZ RA
theorem qdH(l:List Nd):∀(es:List (tN×Bool)) (nm:tN),getK nm (putN es l)=some true↔(getK nm es=some true\/∃ x,x∈l/\x.name=nm):=by
 induction l with
 |nil=>intro es nm;exact⟨fun h => .inl h,fun h=>h.elim id fun⟨x,g,_⟩=>absurd g qN⟩
 |cons a l i =>
  intro es nm;have e:putN es (a :: l)=putN (setK a.name true es) l:=rfl;rw[e,i,vo];by_cases e:nm=a.name
  .grind
  .rw [if_neg e]
   constructor
   .grind
   .rintro (h|⟨x,g,j⟩)
    .exact .inl h
    .rcases qz.1 g with rfl|g
     .grind
     grind
theorem qrD(l:List Pd):∀(es:List (tN×Bool)) (nm:tN),getK nm (l.foldl (fun es p=>putN es (preN p.body)) es)=some true↔(getK nm es=some true\/∃ p,p∈l/\∃ x,x∈preN p.body/\x.name=nm):=by
 induction l with
 |nil=>simp
 |cons a l i =>
  intro es nm;rw[List.foldl_cons,i,qdH];constructor
  .grind
  .rintro (h|⟨p,g,h⟩)
   .grind
   .rcases qz.1 g with rfl|g
    .grind
    grind
structure Ti (es:List (tN×Bool)):Prop where
 nd:(es.map Prod.fst).Nodup
 tr:∀ e,e∈es->e.2=true
theorem Ti.put(l:List Nd):∀{es:List (tN×Bool)},Ti es->Ti (putN es l):=by
 induction l with
 |nil=>intro es h;exact h
 |cons a l i =>
  intro es h;refine i (es:=setK a.name true es) ⟨wm h.nd,fun e g=>?_⟩;rcases US g with rfl|g
  .rfl
  .exact h.tr e g
theorem cU(l:List Pd):∀{es:List (tN×Bool)},Ti es->Ti (l.foldl (fun es p=>putN es (preN p.body)) es):=by
 induction l with
 |nil=>grind
 |cons a l g=>intro es h;exact g (h.put _)
theorem kz{nm:tN}(n:Nd)(i:nm≠⟨#[]⟩):nm∈namL n↔∃ x,x∈preN n/\x.name=nm:=by
 unfold namL;rw[qo];constructor
 .rintro ⟨x,g,e⟩
  exact⟨x,(jK.1 g).1,e⟩
 .rintro ⟨x,g,e⟩
  exact⟨x,jK.2 ⟨g,by rw[e];simpa using i⟩,e⟩
theorem takTn(ts:TS)(n:Nd):Tn (takL ts n) (y6 ts n):=by
 have i:∀ o:tN,o≠⟨#[]⟩->(o∈takL ts n↔getK o (y6 ts n)=some true):=fun o r=>by
  unfold takL y6;rw[qrD,qdH,qM,kz n r,uW];constructor
  .grind [kz]
  .rintro ((h|h)|⟨p,P,h⟩)
   .cases h
   .exact .inl h
   grind [kz]
 refine⟨i,?_⟩;have g:Ti (y6 ts n):=cU _ (Ti.put _ ⟨.nil,fun e t=>absurd t qN⟩);have:=List.Nodup.length_le_of_subset (l₂:=⟨#[]⟩ :: takL ts n) g.nd fun x C=>by
  by_cases e:x=⟨#[]⟩
  .grind
  .refine zc _ ((i x e).2 ?_)
   obtain⟨q,l,rfl⟩:=qo.1 C;have I:=g.tr q l;have J:=(Za g.nd (k:=q.1) (v:=q.2)).2 l;rw[J,I]
 grind
theorem qdI(ts:TS)(h:okTS ts)(l:List tN)(es:List (tN×Bool))(t:Tn l es)(I:l.length<=400000)(J:qr ts es<=200000)(g:Free ts es)(j:∀ p,p∈ts.sT->WfN p.body/\yW ts p.body):∀(f:Nat) (env:IEnv) (sc:List Sb) (n:Nd) (body:Bool) (s:ISt),Pre ts es f env sc n body s->ExpW ts l es f sc n body s
 | 0,env,sc,n,body,s,p=>zW2 p.fu p.st.c1
 |f+1,env,sc,n,body,s,p=>by
  have P:=qdI ts h l es t I J g j f;by_cases o:s.sM+1<=4000
  case neg=>grind [expZ]
  by_cases R:n.op=1
  .grind [expN]
  by_cases h47:n.op=47
  .obtain ⟨r,C,i⟩:=p.cl n (uq n) h47
   have T:(payS 1 s).sM=s.sM+1:=rfl;exact expC ts l es f env sc n body s p o h47 r C (replW ts h l es g j f P env sc n body (payS 1 s) ⟨zW1 p.fu,(Ql p.st zOm o).ok p.st,p.en,p.wf,p.cl,p.so,zW1 p.le⟩ h47 r C i)
  grind [expK]
theorem inlRU(ts:TS)(h:okTS ts)(hv:∀ p,p∈ts.sT->zj p.body=true)(hb:∀ p,p∈ts.sT->WfN p.body/\yW ts p.body)(n:Nd)(hn:zj n=true)(a7:(yE ts [] n).1=0->yW ts n):qj qg 68 [eTS ts,eNd n] (.tup [eNd (yo ts n).1,aI (yo ts n).2]):=by
 have hw:=ul hn;have a8:=wH.1 hn;have J:∀ p,p∈ts.sT->WfN p.body:=fun p hp=>(hb p hp).1
 have a9:∀ p,p∈ts.sT->(preN p.body).length<=400:=fun p hp=>by grind [wH,Ve]
 have aa:(preN n).length<=400:=by grind [Ve]
 have hF:=KX h hv hn;have hT:=takTn ts n;have af:=h.np;have ab:(takL ts n).length<=400000:=by
  have h1:∀ L:List Pd,(∀ p,p∈L->(preN p.body).length<=400)->(L.flatMap fun p=>namL p.body).length<=400*L.length:=by
   intro L;induction L with
   |nil=>intro _;simp
   |cons a L ih =>
    intro hL;have a1:=ih fun p hp=>hL p (zc _ hp)
    have a2:=Wb a.body;have a3:=hL a (zh ..);rw[wO,q8,zD];omega
  grind [Wb,takL,q8]
 have P:=KF ts (y6 ts n);have T:StOk (qr ts (y6 ts n)) ⟨0,0⟩:=⟨zSp,zSp,zSp,by simp[pot]⟩;have cf:=kl ts h J [] ⟨zSp,zSp⟩ zSp n hw a8.2.2.2;have l:=mJ (szN n) n (qt _) hw.small;have ct:=qq2 ts h J n hw aa a9;have U:WKs [eTS ts,.lst true [],eNd n] [eTS ts,lPm [],eNd n] := .zk (zo ts) (.cons (WK.lst fun r hr=>absurd hr qN) (.zk (qO n) .nil));have ad:WKs [eTS ts,eNd n] [eTS ts,eNd n] := .zk (zo ts) (.zk (qO n) .nil);generalize i:yo ts n=R;unfold yo at i;by_cases j:(yE ts [] n).1=0
 case neg =>
  rw[if_pos j]at i;subst i;refine qSU call68 func68 rfl ?_;refine tT cf U ?_;simp[go_sem,j];refine fD [0,1,2,4,3] [(0,0,[]),(1,0,[]),(2,0,[]),(4,0,[]),(3,1,[2])] zKr zKr zSi ?_;simp_all[go_sem,YQ]
 rw[if_neg (zUs j)]at i;cases ha:anyN (fun n=>decide (n.op=47)) n with
 |false =>
  rw[ha]at i l;rw[if_pos rfl]at i;subst i;refine qSU call68 func68 rfl ?_;refine tT cf U ?_;simp[go_sem,j];refine tT l (.zk (qO n) .nil) ?_;simp[go_sem,j];exact .hf _ (HF.tup fun x hx=>by
   simp only[qz,qN,or_false]at hx;rcases hx with rfl|rfl
   .exact qO n
   .exact HF.sc _)
 |true =>
  rw[ha]at i l;rw[if_neg zSp]at i;have a0:=a7 j;have cx:=qdI ts h (takL ts n) (y6 ts n) hT ab hF P hb 4001 [] [] n false ⟨0,0⟩ ⟨zSp,T,.nil,hw,a0,⟨fun o=>rfl,fun _ o v hv=>(by cases hv),fun e he=>absurd he qN⟩,zSp⟩;have ho:=Jf ts (y6 ts n) P hb 4001 [] [] n false ⟨0,0⟩ zSp T .nil hw a0 ⟨fun o=>rfl,fun _ o v hv=>(by cases hv),fun e he=>absurd he qN⟩;have a4:=fun {n' z s'}=>YP ts J (y6 ts n) 4001 (env:=[]) (n:=n) (n':=n') (body:=false) (s:=⟨0,0⟩) (s':=s') (z:=z) (fun e he=>absurd he qN) hw
  have a5:=fun {n' z s'}=>jT ts P 4001 (env:=[]) (n:=n) (n':=n') (body:=false) (s':=s') (z:=z) T .nil
  have a6:=fun {d}=>Vb ts (y6 ts n) 4001 (env:=[]) (n:=n) (body:=false) (s:=⟨0,0⟩) (d:=d)
  unfold outI at i;unfold ExpW at cx;generalize expR ts (y6 ts n) 4001 [] n false ⟨0,0⟩=q at *
  generalize expI ts (y6 ts n) 4001 [] n false ⟨0,0⟩=E at *
  have ae:(4000<q.1.sM/\R=(nd0,2))\/(¬ 4000<q.1.sM/\yF q.2.1/\depN q.2.1<=1000000/\((400<q.2.2/\R=(nd0,2))\/(¬ 400<q.2.2/\24<depN q.2.1/\R=(nd0,2))\/(¬ 400<q.2.2/\¬ 24<depN q.2.1/\R=(q.2.1,0)))):=by
   cases E with
   |error d =>
    have:=a6 rfl;subst this;exact .inl ⟨ho.1,i.symm⟩
   |ok r =>
    obtain⟨⟨m,y⟩,t⟩:=r;obtain⟨o1,o2,o3⟩:=ho;obtain⟨s1,s2⟩:=a4 rfl;have g:=a5 rfl;have gc:=g.c1;have gz:=g.cz;have dl:=KD m;rw[o1,o2,o3];have gz:0+y<=t.sM:=gz;refine .inr ⟨zOm,s2,zOm,?_⟩;simp only at i;by_cases z1:y<=400
    .by_cases z2:depN m<=24
     .grind
     grind
    .rw [if_neg (fun x=>z1 x.1)]at i
     grind
  clear i ho a4 a5 a6;refine qSU call68 func68 rfl ?_;refine tT cf U ?_;simp[go_sem,j];refine tT l (.zk (qO n) .nil) ?_;simp[go_sem,j];refine fD [0,1,2,5,3,4,6,7,8,9,10,15,11,12,13,14] [(0,0,[]),(1,0,[]),(2,0,[]),(5,0,[]),(3,1,[0,5]),(4,0,[]),(6,1,[]),(7,0,[]),(8,0,[]),(9,0,[]),(10,0,[]),(15,0,[]),(11,2,[0,1,2,5]),(12,2,[0,1,2,5]),(13,1,[]),(14,1,[])] zKr zKr zSi ?_;simp[go_sem,j];refine tT ct ad ?_;simp[go_sem,j];refine tT cx ?_ ?_
  .exact .zk (wK ts (takL ts n) ⟨0,0⟩) (.cons (WK.lst fun r hr=>absurd hr qN) (.zk (qO n) (.zs .nil)))
  simp[go_sem,j];have ag:∀ C:Mu,Rd C (.tup [eNd q.2.1,aI 0]) (.tup [eNd q.2.1,aI 0]):=fun C => .hf _ (HF.tup fun x hx=>by
   simp only[qz,qN,or_false]at hx;rcases hx with rfl|rfl
   .exact qO _
   .exact HF.sc _)
  rcases ae with ⟨g1,g2⟩|⟨g1,gs,gd,⟨g2,g3⟩|⟨g2,g3,g4⟩|⟨g2,g3,g4⟩⟩
  .simp_all [go_sem,g1,YQ]
  .rw [g3]
   simp[go_sem,j,g1,g2];exact YQ _ _
  .rw [g4]
   simp[go_sem,j,g1,g2];refine tT (kx (szN q.2.1) q.2.1 (qt _) gs gd) (.zk (qO _) .nil) ?_;simp_all[go_sem,g1,YQ]
  .rw [g4]
   simp[go_sem,j,g1,g2];refine tT (kx (szN q.2.1) q.2.1 (qt _) gs gd) (.zk (qO _) .nil) ?_;simp[go_sem, *]
end RB
namespace FE
open Y1 Y9
def yi(op a s:Int)(i:Nat)(k:Int):Int:=if op=48\/op=49\/op=51 then k*s else if i=1/\(op=45\/op=46\/op=15) then k*a else k
def minW(v:Int):Int:=if 1000000<v then 1000000 else v
mutual
def wkN(a s:Int):Nd->Int
 | .mk op _ _ ks _=>wkNs a s op 0 ks 1
def wkNs(a s op:Int):Nat->List Nd->Int->Int
 |_,[],sum=>sum
 |i,k :: ks,sum=>wkNs a s op (i+1) ks (minW (sum+yi op a s i (wkN a s k)))
end
theorem qrE(a s:Int)(n:Nd):wkN a s n=wkNs a s n.op 0 n.sD 1:=by
 obtain⟨op,o,i,ks,q⟩:=n;rw[wkN];rfl
theorem qdJ{op a s:Int}{i:Nat}{k:Int}(j:0<=a/\a<=100)(l:0<=s/\s<=100)(g:0<=k/\k<=1000000):0<=yi op a s i k/\yi op a s i k<=100000000:=by
 unfold yi;have o:=Int.mul_nonneg g.1 j.1;have p:=Int.mul_nonneg g.1 l.1;have r:k*a<=1000000*100:=jE g.2 j.2 j.1 zOm;have t:k*s<=1000000*100:=jE g.2 l.2 l.1 zOm;split
 .omega
 .split<;>omega
theorem qdK{v:Int}(h:0<=v):0<=minW v/\minW v<=1000000:=by unfold minW;split<;>omega
mutual
theorem qdL(a s:Int)(g:0<=a/\a<=100)(i:0<=s/\s<=100):∀ n:Nd,0<=wkN a s n/\wkN a s n<=1000000
 | .mk op _ _ ks _=>by rw[wkN];exact qdM a s g i op ks 0 1 zOm
theorem qdM(a s:Int)(g:0<=a/\a<=100)(j:0<=s/\s<=100)(op:Int):∀(ks:List Nd) (i:Nat) (sum:Int),0<=sum/\sum<=1000000->0<=wkNs a s op i ks sum/\wkNs a s op i ks sum<=1000000
 | [],_,sum,h=>by rw[wkNs];exact h
 |k :: ks,i,sum,h=>by
  rw[wkNs];have l:=qdL a s g j k;have o:=qdJ (op:=op) (i:=i) g j l;exact qdM a s g j op ks (i+1) _ (qdK zOm)
end
theorem qdN(a s:Int)(ha:0<=a/\a<=100)(hs:0<=s/\s<=100):∀(m:Nat) (n:Nd),szN n<=m->yF n->qj qg 69 [eNd n,aI a,aI s] (aI (wkN a s n))
 | 0,n,hm,_=>by obtain⟨op,nm,i,ks,p⟩:=n;simp[szN]at hm
 |m+1,n,hm,a7=>by
  have ih:∀ k,k∈n.sD->qj qg 69 [eNd k,aI a,aI s] (aI (wkN a s k)):=fun k hk=>qdN a s ha hs m k (zW1 (yv hk)) (a7.kid hk)
  rw[qrE];have a9:=a7.len;generalize hR:wkNs a s n.op 0 n.sD 1=R;refine qSU call69 func69 rfl ?_;refine kM n.sD.length (fun k U=>∃ sum:Int,U.tm 1=aI a/\U.tm 2=aI s/\U.tm 3 = .ip (cNd n)/\U.tm 7=aI sum/\U.tm 8=aI k/\(0<=sum/\sum<=1000000)/\wkNs a s n.op k (n.sD.drop k) sum=R) ?_ ?_
  .exact ⟨1,zSi,zSi,zSi,zSi,zSi,zOm,zUs hR⟩
  .rintro k U hk ⟨sum,r,t,C,e7,e8,aa,o⟩
   by_cases a8:k=n.sD.length
   .subst a8
    rw[yA,wkNs]at o;subst o;simp[go_sem,r,t,C,e7,e8];exact .zsc _
   .have l:k<n.sD.length:=by omega
    rw[zp l,wkNs]at o;have w1:=zWk k;have a3:=qdL a s ha hs n.sD[k];have ab:=qdJ (op:=n.op) (i:=k) ha hs a3;have j:=qdK (v:=sum+yi n.op a s k (wkN a s n.sD[k])) zOm;have m1:=Int.mul_nonneg a3.1 ha.1;have m2:=Int.mul_nonneg a3.1 hs.1;have m3:wkN a s n.sD[k] * a<=1000000*100:=jE a3.2 ha.2 ha.1 zOm;have m4:wkN a s n.sD[k] * s<=1000000*100:=jE a3.2 hs.2 hs.1 zOm;simp[go_sem,r,t,C,e7,e8,l,zd];refine tT (ih n.sD[k] (qs l)) (.zk (qO _) (.zs (.zs .nil))) ?_;generalize wkN a s n.sD[k]=K at *
    by_cases I:k=1
    .have g:(k:Int)=1:=by omega
     by_cases a0:n.op=48
     .have J:yi n.op a s k K=K*s:=by simp[yi,a0,I,g]
      rw[J]at o j;have P:qq.wrap (K*s)=K*s:=zWr;have T:qq.wrap (sum+K*s)=sum+K*s:=zWr;simp[go_sem,r,t,C,e7,e8,w1,P,T,l,a0,eq_true I,eq_true g];exact aK ⟨_,zS1 r,zS1 t,zS1 C,by simp[go_sem,minW],zSi,j,o⟩
     by_cases a1:n.op=49
     .have J:yi n.op a s k K=K*s:=by simp[yi,a1,I,g]
      rw[J]at o j;have P:qq.wrap (K*s)=K*s:=zWr;have T:qq.wrap (sum+K*s)=sum+K*s:=zWr;simp[go_sem,r,t,C,e7,e8,w1,P,T,l,a1,eq_true I,eq_true g];exact aK ⟨_,zS1 r,zS1 t,zS1 C,by simp[go_sem,minW],zSi,j,o⟩
     by_cases a2:n.op=51
     .have J:yi n.op a s k K=K*s:=by simp[yi,a2,I,g]
      rw[J]at o j;have P:qq.wrap (K*s)=K*s:=zWr;have T:qq.wrap (sum+K*s)=sum+K*s:=zWr;simp[go_sem,r,t,C,e7,e8,w1,P,T,l,a2,eq_true I,eq_true g];exact aK ⟨_,zS1 r,zS1 t,zS1 C,by simp[go_sem,minW],zSi,j,o⟩
     by_cases a4:n.op=45
     .have J:yi n.op a s k K=K*a:=by simp[yi,a4,I,g]
      rw[J]at o j;have P:qq.wrap (K*a)=K*a:=zWr;have T:qq.wrap (sum+K*a)=sum+K*a:=zWr;simp[go_sem,r,t,C,e7,e8,w1,P,T,l,a4,eq_true I,eq_true g];exact aK ⟨_,zS1 r,zS1 t,zS1 C,by simp[go_sem,minW],zSi,j,o⟩
     by_cases a5:n.op=46
     .have J:yi n.op a s k K=K*a:=by simp[yi,a5,I,g]
      rw[J]at o j;have P:qq.wrap (K*a)=K*a:=zWr;have T:qq.wrap (sum+K*a)=sum+K*a:=zWr;simp[go_sem,r,t,C,e7,e8,w1,P,T,l,a5,eq_true I,eq_true g];exact aK ⟨_,zS1 r,zS1 t,zS1 C,by simp[go_sem,minW],zSi,j,o⟩
     by_cases a6:n.op=15
     .have J:yi n.op a s k K=K*a:=by simp[yi,a6,I,g]
      rw[J]at o j;have P:qq.wrap (K*a)=K*a:=zWr;have T:qq.wrap (sum+K*a)=sum+K*a:=zWr;simp[go_sem,r,t,C,e7,e8,w1,P,T,l,a6,eq_true I,eq_true g];exact aK ⟨_,zS1 r,zS1 t,zS1 C,by simp[go_sem,minW],zSi,j,o⟩
     have J:yi n.op a s k K=K:=by simp[yi,a0,a1,a2,a4,a5,a6,I,g]
     rw[J]at o j;have P:=w1;have T:qq.wrap (sum+K)=sum+K:=zWr;simp[go_sem,r,t,C,e7,e8,w1,P,T,l,a0,a1,a2,a4,a5,a6,eq_true I,eq_true g];exact aK ⟨_,zS1 r,zS1 t,zS1 C,by simp[go_sem,minW],zSi,j,o⟩
    .have g:¬(k:Int)=1:=by omega
     by_cases a0:n.op=48
     .have J:yi n.op a s k K=K*s:=by simp[yi,a0,I,g]
      rw[J]at o j;have P:qq.wrap (K*s)=K*s:=zWr;have T:qq.wrap (sum+K*s)=sum+K*s:=zWr;simp[go_sem,r,t,C,e7,e8,w1,P,T,l,a0,I,g];exact aK ⟨_,zS1 r,zS1 t,zS1 C,by simp[go_sem,minW],zSi,j,o⟩
     by_cases a1:n.op=49
     .have J:yi n.op a s k K=K*s:=by simp[yi,a1,I,g]
      rw[J]at o j;have P:qq.wrap (K*s)=K*s:=zWr;have T:qq.wrap (sum+K*s)=sum+K*s:=zWr;simp[go_sem,r,t,C,e7,e8,w1,P,T,l,a1,I,g];exact aK ⟨_,zS1 r,zS1 t,zS1 C,by simp[go_sem,minW],zSi,j,o⟩
     by_cases a2:n.op=51
     .have J:yi n.op a s k K=K*s:=by simp[yi,a2,I,g]
      rw[J]at o j;have P:qq.wrap (K*s)=K*s:=zWr;have T:qq.wrap (sum+K*s)=sum+K*s:=zWr;simp[go_sem,r,t,C,e7,e8,w1,P,T,l,a2,I,g];exact aK ⟨_,zS1 r,zS1 t,zS1 C,by simp[go_sem,minW],zSi,j,o⟩
     have J:yi n.op a s k K=K:=by simp[yi,a0,a1,a2,I,g]
     rw[J]at o j;have P:=w1;have T:qq.wrap (sum+K)=sum+K:=zWr;simp[go_sem,r,t,C,e7,e8,w1,P,T,l,a0,a1,a2,I,g];exact aK ⟨_,zS1 r,zS1 t,zS1 C,by simp[go_sem,minW],zSi,j,o⟩
end FE
namespace FF
end FF
namespace IB
open QU P1 P2 Y1 YF Y9 Y10 Y16 PA YC YG YH Q4 Q6 Q8 PF QT RB QL E3 F2 FC FD FE IA
section
variable {ts:TS}
abbrev bigT(ts:TS):Prop:=∀ x,x∈ts.sS->x.1.size<=4611686018427387904
structure SpD (ts:TS):Prop where
 h:okTS ts
 wp:∀ p,p∈ts.sT->WfN p.body
 wf:∀ f,f∈ts.sP->WfN f.2
 hv:∀ p,p∈ts.sT->zj p.body=true
 hf:∀ f,f∈ts.sP->zj f.2=true
theorem kA(h:yY ts=true)(i:bigT ts):SpD ts:=by
 obtain⟨ok,j,wf⟩:=qk6 h i;simp only[yY,limB,fldB,qK,decide_eq_true_eq,List.all_eq_true]at h;obtain⟨⟨⟨⟨r,t⟩,C⟩,I⟩,hf,l,o⟩:=h;exact⟨ok,j,wf,fun p g=>(l p g).2,fun f g=>o f g⟩
theorem SpD.chk(S:SpD ts):qj qg 29 [eTS ts] (lDg (jB ts)):=
 qqX ts S.h S.wp S.wf (fun p g=>(wH.1 (S.hv p g)).2.2.2) (fun f hf=>(wH.1 (S.hf f hf)).2.2.2)
theorem SpD.chkF(S:SpD ts){n:Nd}(g:zj n=true):qj qg 30 [eTS ts,lPm [],eNd n] (eDg (yE ts [] n)):=
 kl ts S.h S.wp [] ⟨zSp,zSp⟩ zSp n (ul g) (wH.1 g).2.2.2
theorem qdO(S:SpD ts)(j:jB ts=[]):∀ p,p∈ts.sT->WfN p.body/\yW ts p.body:=fun p g=>⟨S.wp p g,by
 obtain⟨i,l,rfl⟩:=uV.1 g;obtain⟨_,r,o⟩:=U3 (qcC j i l);exact KV (uN S.h zOm) (szN ts.sT[i].body) _ _ _ _ (qt _) o (S.wp _ g)⟩
theorem qdP(S:SpD ts){n:Nd}(g:zj n=true)(i:(yE ts [] n).1=0):yW ts n:=by
 obtain⟨_,l,j⟩:=U3 i;exact KV (uN S.h (qt _)) (szN n) _ _ _ _ (qt _) j (ul g)
theorem inlC(S:SpD ts)(i:jB ts=[]){n:Nd}(g:zj n=true):qj qg 45 [eTS ts,eNd n] (.tup [eNd (yo ts n).1,aI (yo ts n).2]):=
 qn3 ts S.h (qdO S i) n (ul g) (qdP S g) (KX S.h S.hv g)
theorem inlR(S:SpD ts)(i:jB ts=[]){n:Nd}(g:zj n=true):qj qg 68 [eTS ts,eNd n] (.tup [eNd (yo ts n).1,aI (yo ts n).2]):=
 inlRU ts S.h S.hv (qdO S i) n g (qdP S g)
theorem qdQ(S:SpD ts)(o:jB ts=[]){n:Nd}(j:zj n=true)(g:(yo ts n).2=0):zj (yo ts n).1=true:=by
 by_cases i:(yE ts [] n).1=0
 .cases l:anyN (fun n=>decide (n.op=47)) n with
  |false =>
   have:yo ts n=(n,0):=by unfold yo;rw[if_neg (zUs i),if_pos l]
   rw[this];exact j
  |true=>exact(qpK S.h S.hv o j i l (Prod.ext rfl g)).1
 .unfold yo at g
  rw[if_pos i]at g;exact absurd g i
theorem qrF(S:SpD ts)(g:jB ts=[]){m:Md}(j:OkMa ⟨ts,m⟩ m.sK.length)(l:0<m.sK.length){n:Nd}(o:zj n=true):qj qg 16 [eTS ts,eMd m,eNd n] (.tup [aB (hV ⟨ts,m⟩ n).1,aI (hV ⟨ts,m⟩ n).2]):=by
 refine qmL ⟨ts,m⟩ m.sK.length j l (yo ts) n (by have:=S.h.nfa;show ts.sP.length<=_;omega) fun b p=>?_
 have i:zj b=true:=by
  rcases qM.1 p with h|h
  .obtain ⟨f,hf,rfl⟩:=qo.1 h
   exact S.hf f hf
  .rw [qS]at h;subst h;exact o
 refine⟨inlC S g i,fun r=>?_⟩;have:=qdQ S g i r;exact⟨ul this,zW1 (qmN this)⟩
def qrG(ts:TS)(a s:Int)(l:List Nd):Bool:=l.all fun b=>!(decide ((yo ts b).2=0)&&decide (3000<wkN a s (yo ts b).1))
def kB(ts:TS)(a s:Int)(n:Nd):Bool:=qrG ts a s (ts.sP.map Prod.snd++[n])
theorem qrH(S:SpD ts)(g:jB ts=[]){n:Nd}(i:zj n=true)(j:(yo ts n).2=0):yF (yo ts n).1:=(ul (qdQ S g i j)).small
end
end IB
namespace IN
open Y1 P1 YF
def Zs(I:Nd->Nd×Int)(W:Nd->Int)(l:List Nd):Bool:=l.all fun b=>!(decide ((I b).2=0)&&decide (3000<W (I b).1))
theorem qrI(ts:TS)(I:Nd->Nd×Int)(W:Nd->Int)(a4:ts.sP.length<=1000)(a s:Int)(n:Nd)(step:∀ b,b∈ts.sP.map Prod.snd++[n]->qj qg 68 [eTS ts,eNd b] (.tup [eNd (I b).1,aI (I b).2]))(yi:∀ b,b∈ts.sP.map Prod.snd++[n]->(I b).2=0->qj qg 69 [eNd (I b).1,aI a,aI s] (aI (W (I b).1))):qj qg 31 [eTS ts,aI a,aI s,eNd n] (aB (Zs I W (ts.sP.map Prod.snd++[n]))):=by
 have a5:(ts.sP.map Prod.snd++[n]).length=ts.sP.length+1:=zSp;have T:∀(k:Nat) (h:k<ts.sP.length) (h2:k<(ts.sP.map Prod.snd++[n]).length),(ts.sP.map Prod.snd++[n])[k]=ts.sP[k].2:=fun k h h2=>by rw[List.getElem_append_left (zUs h)];simp
 have a0:∀(h2:ts.sP.length<(ts.sP.map Prod.snd++[n]).length),(ts.sP.map Prod.snd++[n])[ts.sP.length]=n:=fun h2=>by rw[List.getElem_append_right zSp];simp
 generalize ts.sP.map Prod.snd++[n]=L at *
 generalize hR:Zs I W L=R;refine qSU call31 func31 rfl ?_;refine kM (ts.sP.length+1) (fun k U=>U.tm 1=aI a/\U.tm 2=aI s/\U.tm 4 = .ip (cTS ts)/\U.tm 7 = .ip (cNd n)/\U.tm 9=aI k/\Zs I W (L.drop k)=R) ?_ ?_
 .exact ⟨zSi,zSi,zSi,zSi,zSi,zUs hR⟩
 rintro k U a6 ⟨C,J,o,P,p,g⟩;have wi:∀ b:Nd,WKs [eTS ts,eNd b] [eTS ts,eNd b]:=fun b => .zk (zo ts) (.zk (qO b) .nil)
 have ww:∀ b:Nd,WKs [eNd b,aI a,aI s] [eNd b,aI a,aI s]:=fun b => .zk (qO b) (.zs (.zs .nil))
 have w1:=zWk k;by_cases j:k<ts.sP.length+1
 .have i:k<L.length:=by omega
  have a2:k<=ts.sP.length:=zOm;have a1:(k:Int)<=ts.sP.length:=zOm;have c1:=step _ (qs i);have c2:=yi _ (qs i);rw[zp i,Zs,List.all_cons]at g;by_cases hf:k<ts.sP.length
  .rw [T k hf i]at g c1 c2
   generalize I ts.sP[k].2=ib at *
   obtain⟨b',e'⟩:=ib;simp only at g c1 c2;simp[go_sem,o,P,p,hf,a2,a1];refine fR c1 (wi _) ?_;by_cases r:e'=0
   .subst r
    have c3:=c2 rfl;simp[go_sem,C,J];refine tT c3 (ww b') ?_;generalize W b'=w at *
    by_cases l:3000<w
    .simp [l]at g
     subst g;simp[go_sem,l];exact .zsc _
    .simp [l]at g
     simp[go_sem,l,p,w1,j];exact aK ⟨zS1 C,zS1 J,zS1 o,zS1 P,zSi,by simpa[Zs] using g⟩
   .simp [r]at g
    simp[go_sem,r,p,w1,j];exact aK ⟨zS1 C,zS1 J,zS1 o,zS1 P,zSi,by simpa[Zs] using g⟩
  .have t:k=ts.sP.length:=by omega
   subst t;rw[a0 i]at g c1 c2;generalize I n=ib at *
   obtain⟨b',e'⟩:=ib;simp only at g c1 c2;simp[go_sem,o,P,p];refine fR c1 (wi _) ?_;by_cases r:e'=0
   .subst r
    have c3:=c2 rfl;simp[go_sem,C,J];refine tT c3 (ww b') ?_;generalize W b'=w at *
    by_cases l:3000<w
    .simp [l]at g
     subst g;simp[go_sem,l];exact .zsc _
    .simp [l]at g
     simp[go_sem,l,p,w1,j];exact aK ⟨zS1 C,zS1 J,zS1 o,zS1 P,zSi,by simpa[Zs] using g⟩
   .simp [r]at g
    simp[go_sem,r,p,w1,j];exact aK ⟨zS1 C,zS1 J,zS1 o,zS1 P,zSi,by simpa[Zs] using g⟩
 .have t:k=ts.sP.length+1:=by omega
  subst t;rw[Vv zOm]at g;have a3:R=true:=by rw[<-g];rfl
  subst a3;simp[go_sem,o,p,show ¬((ts.sP.length:Int)+1<=ts.sP.length) by omega];exact .zsc _
end IN
namespace IF
open P1 Y1 YF Y16 YG Q4 FE IB IN
theorem qrJ{ts:TS}(S:SpD ts)(i:jB ts=[])(a s:Int)(l:0<=a/\a<=100)(o:0<=s/\s<=100){n:Nd}(p:zj n=true):qj qg 31 [eTS ts,aI a,aI s,eNd n] (aB (kB ts a s n)):=by
 have j:∀ b,b∈ts.sP.map Prod.snd++[n]->zj b=true:=fun b g=>by
  rcases qM.1 g with h|h
  .obtain ⟨f,hf,rfl⟩:=qo.1 h
   exact S.hf f hf
  .rw [qS]at h;subst h;exact p
 exact qrI ts (yo ts) (wkN a s) (zW1 S.h.nfa) a s n (fun b g=>inlR S i (j b g)) (fun b g r=>qdN a s l o _ _ (qt _) (qrH S i (j b g) r))
end IF
namespace GZ
open E1 GB GF GP GU GY
theorem qdR(g:List Ch)(s f:Nat)(t:Int):t∈selT g s f↔((s:Int),(f:Int),t)∈g:=by
 simp only[selT,qo,jK,qK,decide_eq_true_eq];constructor
 .rintro ⟨⟨a,b,c⟩,⟨h,i,j⟩,rfl⟩
  simp only at i j;subst i j;exact h
 .intro h
  exact⟨_,⟨h,rfl,rfl⟩,rfl⟩
theorem Vp:∀(g:List Bd) (k:Nat) (p t:Int),(p,t)∈qB g k↔∃(f:Nat) (h:f<g.length),p=((k+f:Nat):Int)/\t∈vH g[f]
 | [],k,p,t=>by simp[qB]
 |b :: g,k,p,t=>by
  simp only[qB,qM,y5,qo,ud,Vp g (k+1)];constructor
  .rintro (⟨a,j,rfl,rfl⟩|⟨f,hf,rfl,i⟩)
   .exact ⟨0,zSp,zSp,zUs j⟩
   .exact ⟨f+1,by simpa using hf,zOm,zUs i⟩
  .rintro ⟨f,hf,rfl,i⟩
   cases f with
   |zero=>grind
   |succ f=>grind
theorem qdS(i:List Bool)(g:List Bd)(N s f:Nat)(t:Int):((s:Int),(f:Int),t)∈chs i (qB g 0) N↔s<N/\(s=0\/i.getD f true=true)/\∃ h:f<g.length,t∈vH g[f]:=by
 simp only[chs,uW,zY,chA,qo,jK,uZ,decide_eq_true_eq,ud,Prod.exists];constructor
 .rintro ⟨C,l,p,I,⟨J,j⟩,P,rfl,rfl⟩
  grind [Vp]
 .rintro ⟨o,j,hf,r⟩
  exact⟨s,o,f,t,⟨(Vp _ _ _ _).2 ⟨f,hf,zSp,r⟩,zUs j⟩,rfl,rfl,rfl⟩
theorem qdT(g:List Bool)(lo:Rl)(t:Int)(i:t∈lo.ts):∀(ts:List Int) (q:List Int×Nat),t∈q.1\/t∈ts->t∈(ts.foldl (vu g lo) q).1
 | [],q,h=>by
  grind
 |a :: ts,q,h=>by
  rw[List.foldl_cons];refine qdT g lo t i ts _ ?_;rcases h with h|h
  .grind [vu,List.mem_append_left]
  .rcases qz.1 h with rfl|h
   .refine .inl ?_
    unfold vu;rw[if_pos i];exact List.mem_append_right _ (qS.2 rfl)
   grind
theorem qdU(g:List Bool):∀(i:List Bd) (q:List Rl×Nat),∃ l,(i.foldl (insB g) q).1=q.1++l
 | [],q=>⟨[],zSp⟩
 |b :: i,q=>by
  obtain⟨l,h⟩:=qdU g i (insB g q b);exact⟨_,by rw[List.foldl_cons,h];simp only[insB,zq];rfl⟩
theorem qrK(g:List Bd)(i:List Bool)(f:Nat)(h:f<g.length):∃ n,(yM g i)[f]?=some ⟨g[f].up.ar,(insF i g[f].lo g[f].up.ts n).1⟩:=by
 have e:g=g.take (f+1)++g.drop (f+1):=(vA ..).symm;have j:ju g i=(g.drop (f+1)).foldl (insB i) (ju (g.take (f+1)) i):=by
  rw[ju,ju,<-vM,vA]
 obtain⟨l,o⟩:=qdU i (g.drop (f+1)) (ju (g.take (f+1)) i);rw[<-j,nY g i f h]at o;have p:(yM (g.take f) i).length=f:=by rw[Yu];simp;omega
 grind [ju,yM,insB,zq,zE]
theorem kC(b:Bd)(t:Int):t∈vH b↔t∈b.up.ts/\¬t∈b.lo.ts:=by simp[vH]
theorem qrL(g:List Bd)(i:List Bool)(f:Nat)(h:f<g.length)(r:g[f].lo.ar=g[f].up.ar)(C:sorted g[f].up.ts)(j:∀ t,t∈g[f].lo.ts->t∈g[f].up.ts)(ts:List Int)
  (l:∀ t,t∈ts↔t∈vH g[f]/\t∈((yM g i).getD f noR).ts):unR g[f].lo ⟨g[f].lo.ar,ts⟩=(yM g i).getD f noR:=by
 obtain⟨n,I⟩:=qrK g i f h;rw[zH,I]at l⊢;simp only[Option.getD_some]at l⊢;have o:(insF i g[f].lo g[f].up.ts n).1.Sublist g[f].up.ts:=by
  have:=UA i g[f].lo g[f].up.ts ([],n) [] (List.Sublist.refl _)
  grind [insF]
 have J:∀ t,t∈g[f].lo.ts->t∈(insF i g[f].lo g[f].up.ts n).1:=fun t h=>qdT i g[f].lo t h g[f].up.ts ([],n) (.inr (j t h))
 obtain⟨P,R⟩:=ZL (g[f].lo.ts++ts);unfold unR;rw[r];congr 1;refine g8 P (C.sublist o) fun x=>?_
 rw[R,qM,l x,kC];constructor
 .rintro (h|⟨_,h⟩)
  .exact J x h
  .exact h
 .intro h
  by_cases p:x∈g[f].lo.ts
  .exact .inl p
  .exact .inr ⟨⟨o.subset h,p⟩,h⟩
theorem qrM(sc:Sc)(j:List Bool)(g:List Bd)(i:List (List Bool))(N k:Nat)(hN:sc.sN=N)(P:k<N)
  (R:∀ b,b∈g->b.lo.ar=b.up.ar) (T:∀ b,b∈g->sorted b.up.ts) (o:∀ b,b∈g->∀ t,t∈b.lo.ts->t∈b.up.ts) :
  anyM sc j g i k∈v6 sc j g (chs j (qB g 0) N) N:=by
 refine Kq.2 ⟨k,(chs j (qB g 0) N).filter fun c=>decide (c.2.2∈((yM g (i.getD c.1.toNat [])).getD c.2.1.toNat noR).ts),P,List.filter_sublist,?_⟩;unfold anyM yU;have r:sc.sN.toNat=N:=zOm;rw[r];congr 1;refine List.map_congr_left fun s p=>?_
 rw[zY]at p;have key:∀(s f:Nat) (hf:f<g.length),s<N->(s=0\/j.getD f true=true) ->
   uQ ((chs j (qB g 0) N).filter fun c=>decide (c.2.2∈((yM g (i.getD c.1.toNat [])).getD c.2.1.toNat noR).ts)) s f g[f]=(yM g (i.getD s [])).getD f noR:=fun s f hf U hc=>by
  have C:=qs hf;refine qrL g (i.getD s []) f hf (R _ C) (T _ C) (o _ C) _ fun t=>?_
  simp_all[qdR,jK,qdS,decide_eq_true_eq,Int.toNat_natCast]
 refine List.ext_getElem (by rw[n6,ZT]) fun f h1 h2=>?_
 have hf:f<g.length:=by grind [n6]
 rw[YJ _ _ _ _ _ hf];have hi:∀ l,f<(yM g l).length:=fun l=>by rw[Yu];exact hf
 have hg:∀ l,(yM g l)[f]'(hi l)=(yM g l).getD f noR:=fun l=>by grind
 by_cases I:s=0
 .subst I
  rw[if_neg zSp,key 0 f hf p (.inl rfl)];simp only[anyS,if_true];exact hg _
 .simp only[anyS,if_neg I,List.getElem_mapIdx]
  by_cases J:j.getD f true=true
  .grind
  .rw [if_neg J,if_pos ⟨I,zUs J⟩,key 0 f hf zOm (.inl rfl)]
end GZ
namespace GX
open P1 E3 G5 GQ GR
structure MdV (ts:TS) (m:Md):Prop where
 f:Fit9 ts m.sc
 z:jd m.sc=true
 ns:(m.sK.length:Int)=m.sc.sN
 l0:0<=m.loop
 l1:m.loop<m.sK.length
 len:∀ s,s∈m.sK->s.length=ts.sA.length
 ar:∀ s,s∈m.sK->∀(i:Nat) (h:i<s.length) (h2:i<ts.sA.length),s[i].ar=ts.sA[i].sS.length/\s[i].ts.Pairwise (·<·)/\∀ t,t∈s[i].ts->t∈yL m.sc ts.sA[i].sS
 fix:∀(k:Nat) (h:k<m.sK.length) (h0:0<m.sK.length) (i:Nat) (h1:i<m.sK[k].length) (h3:i<m.sK[0].length) (h2:i<ts.sA.length),ts.sA[i].var=false->m.sK[k][i]=m.sK[0][i]
theorem qdV{sc:Sc}(h:jd sc=true):sumI sc.sC<=12:=by
 simp only[jd,qK,decide_eq_true_eq]at h;exact h.2.2.2.2
end GX
namespace HA
open P1 E1 GF GQ GR GS GU GW GX GZ
section
variable {g:List Bd}{ts:TS}
theorem kE(c:List Ch)(s f:Nat)(b:Bd)(t:Int):t∈(uQ c s f b).ts↔t∈b.lo.ts\/((s:Int),(f:Int),t)∈c:=by
 unfold uQ unR;rw[(ZL _).2,qM,qdR]
theorem qdW(c:List Ch)(s f:Nat)(b:Bd):sorted (uQ c s f b).ts:=(ZL _).1
theorem qdX{sc:Sc}(B:BndV ts sc g){i:List Bool}{N:Nat}{c:List Ch}(j:c.Sublist (chs i (qB g 0) N))(s f:Nat)(hf:f<g.length) :
  (∀ t,t∈g[f].lo.ts->t∈(uQ c s f g[f]).ts)/\∀ t,t∈(uQ c s f g[f]).ts->t∈g[f].up.ts:=by
 refine⟨fun t h=>(kE ..).2 (.inl h),fun t h=>?_⟩;rcases (kE ..).1 h with h|h
 .exact B.sub _ (qs hf) t h
 .obtain ⟨_,_,_,h⟩:=(qdS ..).1 (j.subset h)
  exact((kC ..).1 h).1
theorem qdY{sc:Sc}(B:BndV ts sc g){i:List Bool}{N:Nat}{c:List Ch}(j:c.Sublist (chs i (qB g 0) N))(s f:Nat)(hf:f<g.length)(l:f<(jn i g c s).length) :
  (jn i g c s)[f].ar=g[f].lo.ar/\sorted (jn i g c s)[f].ts/\(∀ t,t∈g[f].lo.ts->t∈(jn i g c s)[f].ts)/\∀ t,t∈(jn i g c s)[f].ts->t∈g[f].up.ts:=by
 rw[YJ _ _ _ _ _ hf];split
 .exact ⟨rfl,qdW ..,qdX B j _ _ hf⟩
 .exact ⟨rfl,qdW ..,qdX B j _ _ hf⟩
theorem qrN{sc:Sc}(F:Fit9 ts sc)(z:jd sc=true)(B:BndV ts sc g){N k:Nat}(J:sc.sN=N)(hk:k<N){c:List Ch}(P:c.Sublist (chs (vsT ts) (qB g 0) N)):MdV ts (yU sc (vsT ts) g c N k):=by
 have l:∀ s,s∈(yU sc (vsT ts) g c N k).sK->∃ j,s=jn (vsT ts) g c j:=fun s o=>by
  obtain⟨j,_,rfl⟩:=qo.1 o;exact⟨j,rfl⟩
 have C:(yU sc (vsT ts) g c N k).sK.length=N:=by simp[yU]
 refine⟨F,z,by rw[C];exact J.symm,by simp[yU],by rw[C];simp only[yU];omega,fun s o=>?_,fun s o i h p=>?_,fun j h h0 i h1 h3 p R=>?_⟩
 .obtain ⟨j,rfl⟩:=l s o
  rw[ZT];exact B.len
 .obtain ⟨j,rfl⟩:=l s o
  have hf:i<g.length:=by rw[ZT]at h;exact h
  obtain⟨T,U,a3,a4⟩:=qdY B P j i hf h;exact⟨T.trans (B.lo i hf p).1,U,fun t ht=>B.full i hf p t (a4 t ht)⟩
 .have hf:i<g.length:=by rw[B.len];exact p
  have r:(vsT ts).getD i true=false:=by
   rw[zH];simp[p,R]
  simp only[yU,Vs,List.getElem_range,YJ _ _ _ _ _ hf];by_cases I:j=0
  .subst I;rfl
  .rw [if_pos ⟨I,r⟩,if_neg zSp]
end
end HA
namespace HB
open GY
section
variable {J:Type}
def lexB:List Bool->List Bool->Bool
 |x :: l,y :: m=>if x=y then lexB l m else y
 |_,_=>false
theorem qdZ:∀ l,lexB l l=false
 | []=>rfl
 |x :: l=>by rw[lexB,if_pos rfl];exact qdZ l
theorem qd0:∀ l m,lexB l m=true->lexB m l=false
 | [],m,h=>by simp[lexB]at h
 |x :: l,[],h=>by simp[lexB]at h
 |x :: l,y :: m,h=>by
  rw[lexB]at h⊢;by_cases e:x=y
  .simp_all [if_pos,qd0]
  grind
theorem qd1:∀ l m n,lexB l m=true->lexB m n=true->lexB l n=true
 | [],m,n,h,_=>by simp[lexB]at h
 |x :: l,[],n,h,_=>by simp[lexB]at h
 |x :: l,y :: m,[],_,h=>by simp[lexB]at h
 |x :: l,y :: m,z :: n,g,i=>by
  rw[lexB]at g i⊢;by_cases e:x=y
  .subst e
   rw[if_pos rfl]at g;by_cases f:x=z
   .rw [if_pos f]at i⊢;exact qd1 l m n g i
   grind
  grind
def lexC(g x y:List J):Prop:=∃ p a q,g=p++a :: q/\(∀ z,z∈p->(z∈x↔z∈y))/\a ∉ x/\a∈y
theorem kF:∀(r c p:List J),(p++r).Nodup->c.Sublist p->(subs c r).Pairwise (lexC (p++r))
 | [],c,p,_,_=>by rw[subs];exact List.pairwise_singleton ..
 |a :: r,c,p,g,l=>by
  have R:p++a :: r=(p++[a])++r:=zSp;rw[subs,List.pairwise_append];refine⟨?_,?_,fun x U y hy=>?_⟩
  .rw [R]at g⊢
   exact kF r c (p++[a]) g (l.trans (List.sublist_append_left ..))
  .rw [R]at g⊢
   exact kF r (c++[a]) (p++[a]) g (l.append (List.Sublist.refl _))
  .obtain ⟨x,i,rfl⟩:=(ZU _ _ _).1 U
   obtain⟨y,o,rfl⟩:=(ZU _ _ _).1 hy;obtain⟨n1,n2,t⟩:=u3.1 g;have na:=List.nodup_cons.1 n2;refine⟨p,a,r,rfl,fun z T=>?_,fun h=>?_,zSp⟩
   .have j:z ∉ r:=fun h=>t z T z (zc _ h) rfl
    have C:z≠a:=fun h=>t z T a (zh ..) h
    have I:z ∉ x:=fun h=>j (i.subset h)
    have P:z ∉ y:=fun h=>j (o.subset h)
    simp[I,P,C]
   .rcases qM.1 h with h|h
    .exact t a (l.subset h) a (zh ..) rfl
    .exact na.1 (i.subset h)
theorem qrO(g:List J)(i:g.Nodup):(subs [] g).Pairwise (lexC g):=by
 have:=kF g [] [] (zUs i) (List.Sublist.refl _)
 grind
end
end HB
namespace HC
open E3 GB GF GU GZ HA HB
theorem qd2{J:Type}(f g:J->Bool)(a:J)(Q:List J)(hf:f a=false)(i:g a=true):∀(P:List J),(∀ z,z∈P->f z=g z)->lexB ((P++a :: Q).map f) ((P++a :: Q).map g)=true
 | [],_=>by simp[lexB,hf,i]
 |z :: P,h=>by
  rw[yH,z6,z6,lexB,if_pos (h z (zh ..))];exact qd2 f g a Q hf i P fun w j=>h w (zc _ j)
def posF(g:List (Int×Int))(N:Nat):List Ch:=(qv N).flatMap fun s:Nat=>g.map fun p=>((s:Int),p.1,p.2)
def bit(m:Md)(c:Ch):Bool:=decide (c.2.2∈((m.sK.getD c.1.toNat []).getD c.2.1.toNat noR).ts)
def Z0(g:List (Int×Int))(N:Nat)(m:Md):List Bool:=(posF g N).map (bit m)
def yp(g:List (Int×Int))(N:Nat)(a b:Md):Bool:=if a.loop=b.loop then lexB (Z0 g N a) (Z0 g N b) else decide (a.loop<b.loop)
theorem qd3(g:List Bool)(i:List (Int×Int))(N:Nat):chs g i N=(posF i N).filter fun c=>decide (c.1=0)||g.getD c.2.1.toNat true:=by
 unfold chs posF;rw[List.filter_flatMap];congr 1;funext s;rw[chA,List.filter_map];congr 1;refine List.filter_congr fun p _=>?_
 simp
theorem qrP(g:List (Int×Int))(N:Nat):(posF g N).Pairwise fun a b=>a.1<=b.1:=by
 unfold posF;rw[List.pairwise_flatMap];refine⟨fun s _=>?_,?_⟩
 .simp_all [List.pairwise_map,List.pairwise_of_forall,vB]
 .refine (List.pairwise_lt_range).imp fun {a b} h x i y j=>?_
  obtain⟨p,_,rfl⟩:=qo.1 i;obtain⟨q,_,rfl⟩:=qo.1 j;omega
theorem kG(g:List Bd)(N:Nat)(c:Ch):c∈posF (qB g 0) N↔∃(s f:Nat) (h:f<g.length),s<N/\c=((s:Int),(f:Int),c.2.2)/\c.2.2∈vH g[f]:=by
 obtain⟨c1,c2,t⟩:=c;simp only[posF,uW,zY,qo,ud,Prod.exists];constructor
 .rintro ⟨s,i,p,o,l,rfl,rfl,rfl⟩
  obtain⟨f,hf,rfl,j⟩:=(Vp _ _ _ _).1 l;exact⟨s,f,hf,i,⟨rfl,zSp⟩,j⟩
 .rintro ⟨s,f,hf,i,⟨rfl,rfl,_⟩,j⟩
  exact⟨s,i,f,t,(Vp _ _ _ _).2 ⟨f,hf,zSp,j⟩,rfl,rfl,rfl⟩
theorem qd4(sc:Sc)(i:List Bool)(g:List Bd)(x:List Ch)(N s f:Nat)(k t:Int)(j:s<N)(hf:f<g.length)(p:t∈vH g[f]) :
  bit (yU sc i g x N k) ((s:Int),(f:Int),t)=decide ((((if s≠0/\i.getD f true=false then 0 else s:Nat):Int),(f:Int),t)∈x):=by
 have l:f<(jn i g x s).length:=by rw[ZT];exact hf
 have o:((qv N).map (jn i g x)).getD s []=jn i g x s:=by
  rw[zH,zg,List.getElem?_range j];rfl
 have r:(jn i g x s).getD f noR=(jn i g x s)[f]:=by rw[zH,qy l];rfl
 grind [kC,bit,yU,Int.toNat_natCast,YJ,kE]
theorem qrQ(sc:Sc)(j:List Bool)(g:List Bd)(N:Nat)(k:Int)(x y:List Ch)(h:lexC (chs j (qB g 0) N) x y):lexB (Z0 (qB g 0) N (yU sc j g x N k)) (Z0 (qB g 0) N (yU sc j g y N k))=true:=by
 obtain⟨p,a,q,e,hp,hx,hy⟩:=h;rw[qd3,List.filter_eq_append_iff]at e;obtain⟨A,R,e1,eA,e2⟩:=e;rw[List.filter_eq_cons_iff]at e2;obtain⟨B,C,rfl,hB,T,_⟩:=e2;have i:posF (qB g 0) N=(A++B)++a :: C:=by rw[e1,zq]
 have o:∀ z,z∈A++B->(decide (z.1=0)||j.getD z.2.1.toNat true)=true->z∈p:=fun z r l=>by
  grind
 have t:=qrP (qB g 0) N;rw[i,List.pairwise_append]at t;have U:∀ z,z∈posF (qB g 0) N↔z∈A++B\/z∈a :: C:=fun z=>by rw[i,qM]
 have I:∀ z,z∈A++B->∃ w,w∈p/\∀ u:List Ch,bit (yU sc j g u N k) z=decide (w∈u):=fun z r=>by
  obtain⟨s,f,hf,hs,J,P⟩:=(kG g N z).1 ((U z).2 (.inl r));rw[J];refine⟨_,?_,fun u=>qd4 sc j g u N s f k z.2.2 hs hf P⟩;by_cases l:s≠0/\j.getD f true=false
  .rw [if_pos l]
   have hm:(((0:Nat):Int),(f:Int),z.2.2)∈posF (qB g 0) N:=(kG g N _).2 ⟨0,f,hf,zOm,rfl,P⟩;rcases (U _).1 hm with h|h
   .grind
   grind
  .rw [if_neg l]
   refine o _ (J ▸ r) ?_;simp only[Int.toNat_natCast,uZ,decide_eq_true_eq]
   grind
 unfold Z0;rw[i];have a0:∀ u:List Ch,bit (yU sc j g u N k) a=decide (a∈u):=fun u=>by
  obtain⟨s,f,hf,hs,J,P⟩:=(kG g N a).1 ((U a).2 (.inr (zh ..)));rw[J,qd4 sc j g u N s f k a.2.2 hs hf P];have l:¬(s≠0/\j.getD f true=false):=fun l=>by
   rw[J]at T;simp only[Int.toNat_natCast,uZ,decide_eq_true_eq]at T;rcases T with h|h
   .omega
   grind
  rw[if_neg l]
 refine qd2 _ _ a C (by grind) (by grind) _ fun z r=>?_
 obtain⟨w,hw,hu⟩:=I z r
 grind
end HC
namespace HD
open E1 E3 GF GU GY HB HC
theorem qd5:∀(g:List Bd) (k:Nat),(∀ b,b∈g->sorted b.up.ts)->(qB g k).Nodup
 | [],k,_=>List.nodup_nil
 |b :: g,k,h=>by
  rw[qB,u3];refine⟨?_,qd5 g (k+1) fun x j=>h x (zc _ j),fun p l q o e=>?_⟩
  .unfold y5
   have r:(vH b).Nodup:=JM (nq _ (h b (zh ..)));exact List.Pairwise.map _ (fun x y i e=>i (Prod.mk.inj e).2) r
  .subst e
   obtain⟨t,_,rfl⟩:=qo.1 l;have:=(J7 g (k+1) _ o).1;simp only at this;omega
theorem qrR(i:List (Int×Int))(N:Nat)(h:i.Nodup):(posF i N).Nodup:=by
 unfold posF List.Nodup;rw[List.pairwise_flatMap];refine⟨fun s _=>List.Pairwise.map _ (fun x y g e=>g (by have:=Prod.mk.inj (Prod.mk.inj e).2;exact Prod.ext this.1 this.2)) h,?_⟩;refine(List.pairwise_lt_range).imp fun {a b} h x j y l e=>?_
 subst e;obtain⟨p,_,rfl⟩:=qo.1 j;obtain⟨q,_,e⟩:=qo.1 l;have:=(Prod.mk.inj e).1;omega
theorem qrS(i:List Bool)(g:List Bd)(N:Nat)(h:∀ b,b∈g->sorted b.up.ts):(chs i (qB g 0) N).Nodup:=by
 grind [qd3,qrR,qd5]
theorem kH(sc:Sc)(i:List Bool)(g:List Bd)(N:Nat)(h:∀ b,b∈g->sorted b.up.ts):(v6 sc i g (chs i (qB g 0) N) N).Pairwise fun a b=>yp (qB g 0) N a b=true:=by
 unfold v6;rw[List.pairwise_flatMap];refine⟨fun k _=>?_,?_⟩
 .refine List.Pairwise.map _ (fun x y j=>?_) (qrO _ (qrS i g N h))
  unfold yp;exact(if_pos rfl).trans (qrQ sc i g N k x y j)
 .refine (List.pairwise_lt_range).imp fun {a b} h x l y o=>?_
  obtain⟨p,_,rfl⟩:=qo.1 l;obtain⟨q,_,rfl⟩:=qo.1 o;unfold yp;exact(if_neg (show ¬((a:Nat):Int)=(b:Nat) by omega)).trans (decide_eq_true (show ((a:Nat):Int)<(b:Nat) by omega))
theorem qrT(g:List (Int×Int))(N:Nat)(a b:Md)(h:yp g N a b=true):yp g N b a=false:=by
 unfold yp at h⊢;by_cases e:a.loop=b.loop
 .simp_all [if_pos,qd0]
 .rw [if_neg e]at h;rw[if_neg (Ne.symm e)]
  have:=of_decide_eq_true h
  grind
theorem qrU(j:List (Int×Int))(N:Nat)(a b c:Md)(g:yp j N a b=true)(i:yp j N b c=true):yp j N a c=true:=by
 unfold yp at g i⊢;by_cases e:a.loop=b.loop
 .rw [if_pos e]at g
  by_cases f:b.loop=c.loop
  .rw [if_pos f]at i;rw[if_pos (e.trans f)];grind [qd1]
  grind
 .rw [if_neg e]at g
  have l:=of_decide_eq_true g;by_cases f:b.loop=c.loop
  .grind
  .rw [if_neg f]at i
   have o:=of_decide_eq_true i;rw[zIn];grind
theorem qd6(g:List (Int×Int))(N:Nat)(a:Md):yp g N a a=false:=by
 unfold yp;rw[if_pos rfl];exact qdZ _
theorem qrV(sc:Sc)(l:List Bool)(g:List Bd)(N:Nat)(h:∀ b,b∈g->sorted b.up.ts)(a b:Md)(o:a∈v6 sc l g (chs l (qB g 0) N) N)(p:b∈v6 sc l g (chs l (qB g 0) N) N) :
  (yp (qB g 0) N a b||yp (qB g 0) N b a)=!decide (a=b):=by
 have r:=kH sc l g N h;by_cases e:a=b
 .grind [qd6]
 .obtain ⟨i,t,rfl⟩:=uV.1 o
  obtain⟨j,C,rfl⟩:=uV.1 p
  grind [List.pairwise_iff_getElem,Nat.lt_or_gt_of_ne]
end HD
namespace IC
open Y9 P1 E1 E3 F2 FD GF GS GU GV GW GX GY HA
section
variable {g:Md->Bool×Int}
theorem qrW(n:Int)(k:Nat)(g:k<=3):powI n k=n ^ k:=by
 unfold powI powN;congr 1;omega
theorem qrX{ts:TS}{m:Md}(h:okTS ts)(V:MdV ts m):OkMa ⟨ts,m⟩ m.sK.length:=by
 have F:=V.f;have j:=F.g;have l:=qdV V.z;have hp:=F.p;refine { len:=rfl,nx:=?_,n0:=by show 0<=sumI m.sc.sC;omega,n12:=l,st:=?_,at0:=?_,gsc:=j,pos:=fun a o=>(j.2 a o).1,al:=F.ns.symm,loop:=V.l0,N1:=zW2 V.ns F.s4,ts:=h }
 .intro t J
  have:=V.l1;have:=V.l0;show (if t+1<m.sK.length then t+1 else m.loop.toNat)<m.sK.length
  grind
 .intro s P
  have hd:m.sK.getD s []=m.sK[s]:=by rw[zH,qy P];rfl
  show (m.sK.getD s []).length=ts.sA.length/\∀ r,r∈m.sK.getD s []->GR (sumI m.sc.sC) r;rw[hd];have R:=qs P;have hl:=V.len _ R;refine⟨hl,fun r hr=>?_⟩;obtain⟨i,C,rfl⟩:=Qs hr;obtain⟨a1,a2,a3⟩:=V.ar _ R i C zOm;have f1:=F.f1 _ (qs (show i<ts.sA.length by omega));refine⟨zOm,zOm,fun t J=>?_,a2⟩;have:=qaP _ _ t (a3 t J)
  grind [qrW,sumI,Int.pow_nonneg]
 .intro i C
  have I:i<m.sc.sC.length:=by rw[<-F.ns];exact C
  exact qmO m.sc.sC i (fun a o=>(j.2 a o).1) I
theorem qd7(g:Md->Bool×Int):∀(L acc:List Md),(∀ m,m∈L->(g m).2=0)->modG g acc L=(acc++L.filter fun m=>(g m).1,0)
 | [],acc,_=>by simp[modG]
 |m :: L,acc,h=>by
  rw[modG,if_neg (by grind),qd7 g L _ fun x i=>h x (zP1 i)]
  grind
theorem qd8(i:Md->Bool×Int):∀(L acc:List Md),(modG i acc L).2=0->∀ m,m∈L->(i m).2=0
 | [],acc,_,m,g=>absurd g qN
 |x :: L,acc,h,m,g=>by
  rw[modG]at h;by_cases j:(i x).2=0
  .rw [if_neg (zUs j)]at h
   rcases qz.1 g with rfl|g
   .exact j
   .exact qd8 i L _ h m g
  grind
theorem qd9(g:Md->Bool×Int):∀(L acc:List Md),(modG g acc L).2≠0->(modG g acc L).1=[]/\∃ m,m∈L/\(g m).2=(modG g acc L).2
 | [],acc,h=>absurd rfl h
 |x :: L,acc,h=>by
  rw[modG]at h⊢;by_cases i:(g x).2=0
  .simp_all [if_neg,qd9]
  grind
theorem qrY{L:List Md}(h:(modV g L 0).2=0):(∀ m,m∈L->(g m).2=0)/\(modV g L 0).1=L.filter fun m=>(g m).1:=by
 grind [modV,modG,qd8,qd7]
theorem qrZ{L:List Md}(h:(modV g L 0).2≠0):(modV g L 0).1=[]/\∃ m,m∈L/\(g m).2=(modV g L 0).2:=by
 grind [modV,modG,qd9]
theorem qr0(g:Md->Bool×Int)(L:List Md):(modV g L 0).1.Sublist L:=by
 by_cases h:(modV g L 0).2=0
 .rw [(qrY h).2];exact List.filter_sublist
 .rw [(qrZ h).1];exact List.nil_sublist _
structure Betw (sc:Sc) (vs:List Bool) (bs:List Bd) (N:Nat) (m:Md):Prop where
 sc:m.sc=sc
 lp:∃ k:Nat,k<N/\m.loop=k
 ns:m.sK.length=N
 len:∀ s,s∈m.sK->s.length=bs.length
 rel:∀(k f:Nat) (hk:k<m.sK.length) (hf:f<bs.length) (h2:f<m.sK[k].length),m.sK[k][f].ar=bs[f].lo.ar/\sorted m.sK[k][f].ts/\(∀ t,t∈bs[f].lo.ts->t∈m.sK[k][f].ts)/\∀ t,t∈m.sK[k][f].ts->t∈bs[f].up.ts
 fix:∀(k f:Nat) (hk:k<m.sK.length) (h0:0<m.sK.length) (h2:f<m.sK[k].length) (h3:f<m.sK[0].length),vs.getD f true=false->m.sK[k][f]=m.sK[0][f]
theorem qr1{ts:TS}{sc:Sc}{g:List Bd}(B:BndV ts sc g){N:Nat}(T:1<=N){m:Md}(h:m∈v6 sc (vsT ts) g (chs (vsT ts) (qB g 0) N) N):Betw sc (vsT ts) g N m:=by
 obtain⟨k,c,p,r,rfl⟩:=Kq.1 h;have t:(yU sc (vsT ts) g c N k).sK.length=N:=by simp[yU]
 have i:∀ s,s∈(yU sc (vsT ts) g c N k).sK->∃ j,s=jn (vsT ts) g c j:=fun s l=>by
  obtain⟨j,_,rfl⟩:=qo.1 l;exact⟨j,rfl⟩
 refine⟨rfl,⟨k,p,rfl⟩,t,fun s l=>?_,fun j f C hf o=>?_,fun j f C U o h3 hv=>?_⟩
 .obtain ⟨j,rfl⟩:=i s l
  rw[ZT]
 .simp only[yU,Vs,List.getElem_range]at o⊢
  obtain⟨I,J,P,R⟩:=qdY B r j f hf o;exact⟨I,J,P,R⟩
 simp_all[yU,vsT,jn,ZT,Vs,List.getElem_range,YJ]
end
end IC
namespace HE
open P1 E1 G5 GP GW
def wtR(rw:List Int)(k:Nat):Int:=if k<rw.length then rw.getD k 0 % 4 else 1
def selW(p:Int->Bool)(rw:List Int):List Int->Nat->List Int
 | [],_=>[]
 |t :: R,k=>(if p (wtR rw k)=true then [t] else [])++selW p rw R (k+1)
theorem qeA(p:Int->Bool)(rw:List Int):∀(ts g:List Int) (k:Nat),selW p rw (ts++g) k=selW p rw ts k++selW p rw g (k+ts.length)
 | [],g,k=>by simp[selW]
 |t :: ts,g,k=>by
  rw[yH,selW,selW,qeA p rw ts g (k+1),zq,zD,show k+1+ts.length=k+(ts.length+1) by omega]
theorem qeB(p:Int->Bool)(rw:List Int)(ts:List Int)(k:Nat)(h:k<ts.length):selW p rw (ts.take (k+1)) 0=selW p rw (ts.take k) 0++(if p (wtR rw k)=true then [ts[k]] else []):=by
 rw[vK h,qeA];have:(ts.take k).length=k:=zSo;simp[selW,this]
theorem wL(p:Int->Bool)(rw:List Int):∀(ts:List Int) (k:Nat),(selW p rw ts k).Sublist ts
 | [],k=>List.Sublist.refl _
 |t :: ts,k=>by
  rw[selW];split
  .exact (wL p rw ts (k+1)).cons_cons t
  .exact (wL p rw ts (k+1)).cons t
theorem qeC{p q:Int->Bool}(h:∀ x,p x=true->q x=true)(rw:List Int):∀(ts:List Int) (k:Nat) (t:Int),t∈selW p rw ts k->t∈selW q rw ts k
 | [],k,t,g=>g
 |a :: ts,k,t,g=>by
  rw[selW,qM]at g⊢;rcases g with g|g
  .left
   split at g
   .rename_i i;rw[if_pos (h _ i)];exact g
   .exact absurd g qN
  .exact .inr (qeC h rw ts (k+1) t g)
def Wf(rw:List Int)(b:Bd):Bd:=⟨⟨b.up.ar,selW (fun x=>decide (1<x)) rw b.up.ts 0⟩,⟨b.up.ar,selW (fun x=>decide (0<x)) rw b.up.ts 0⟩⟩
def yj(ts:TS)(sc:Sc)(raw:List (List Int)):List Bd:=(defB ts sc).mapIdx fun i b=>Wf (raw.getD i []) b
theorem Qq(ts:TS)(sc:Sc)(raw:List (List Int)):(yj ts sc raw).length=ts.sA.length:=by simp[yj,defB]
theorem Wg(ts:TS)(sc:Sc)(raw:List (List Int))(i:Nat)(h:i<(yj ts sc raw).length)(g:i<ts.sA.length):(yj ts sc raw)[i]=Wf (raw.getD i []) ⟨⟨ts.sA[i].sS.length,[]⟩,⟨ts.sA[i].sS.length,yL sc ts.sA[i].sS⟩⟩:=by
 simp[yj,defB]
theorem qeD(ts:TS)(sc:Sc)(raw:List (List Int))(hf:∀ f,f∈ts.sA->sorted (yL sc f.sS)):BndV ts sc (yj ts sc raw):=by
 have key:∀ b,b∈yj ts sc raw->∃(i:Nat) (g:i<ts.sA.length),b=Wf (raw.getD i []) ⟨⟨ts.sA[i].sS.length,[]⟩,⟨ts.sA[i].sS.length,yL sc ts.sA[i].sS⟩⟩:=fun b j=>by
  obtain⟨i,o,rfl⟩:=uV.1 j;have g:i<ts.sA.length:=by rw[Qq]at o;exact o
  exact⟨i,g,Wg ts sc raw i o g⟩
 refine⟨Qq ..,fun i h g=>?_,fun b j=>?_,fun b j t l=>?_,fun i h g t l=>?_⟩
 .rw [Wg _ _ _ _ h g];exact⟨rfl,rfl⟩
 .obtain ⟨i,g,rfl⟩:=key b j
  have:=hf _ (qs g);exact⟨this.sublist (wL ..),this.sublist (wL ..)⟩
 .obtain ⟨i,g,rfl⟩:=key b j
  exact qeC (fun x p=>by have:=of_decide_eq_true p;exact decide_eq_true zOm) _ _ _ t l
 .rw [Wg _ _ _ _ h g]at l
  exact(wL ..).subset l
end HE
namespace HF1
open GB
theorem qr2{a b:Ed}:a=b↔a.kind=b.kind/\a.state=b.state/\a.field=b.field/\a.tup=b.tup:=by
 cases a;cases b;simp
instance:DecidableEq Ed:=fun a b=>decidable_of_iff _ qr2.symm
end HF1
namespace HG
end HG
namespace HH
open E3 E4
theorem qr3(a b:List Int)(P:a.length<=1000000):qj qg 36 [lI a,lI b] (aB (decide (a=b))):=by
 refine qSV call36 func36 rfl ?_;by_cases C:a.length=b.length
 .have J:(a.length:Int)=b.length:=by omega
  simp[go_sem,C];refine qn.up a.length (fun k U=>U.tm 0=lI a/\U.tm 1=lI b/\U.tm 5=aI k/\∀(i:Nat) (h:i<k) (P:i<a.length) (hb:i<b.length),a[i]=b[i]) ?_ ?_
  .exact ⟨zSi,zSi,zSi,fun i h=>absurd h (Nat.not_lt_zero i)⟩
  rintro k U hk ⟨p,r,t,l⟩;by_cases j:k<a.length
  .have g:k<b.length:=by omega
   have R:=zWk k;simp[go_sem,p,r,t,j,g];refine cJ zKr ?_;simp[go_sem,p,r,t,j,g];by_cases I:a[k]=b[k]
   .simp [go_sem,p,r,t,j,g,I,R]
    exact fun i hi _ _=>by
     by_cases h:i<k
     .exact l i h _ _
     .have:i=k:=by omega
      subst this;exact I
   .have o:¬a=b:=fun e=>I (by simp only[e])
    simp[go_sem,p,r,t,j,g,I];rw[decide_eq_false o];exact .zsc _
  .have T:a=b:=List.ext_getElem C fun i h h'=>l i zOm h h'
   simp[go_sem,p,r,t,show ¬k<a.length from j];rw[decide_eq_true T];exact .zsc _
 .have J:¬(a.length:Int)=b.length:=by omega
  have o:¬a=b:=fun e=>C (by rw[e])
  simp[go_sem,C,o];exact .zsc _
theorem qr4(a b:List Rl)(R:a.length<=1000000)(T:∀ r,r∈a->r.ts.length<=4611686018427387904):qj qg 37 [lRel a,lRel b] (aB (decide (a=b))):=by
 refine qSV call37 func37 rfl ?_;by_cases I:a.length=b.length
 .have P:(a.length:Int)=b.length:=by omega
  simp[go_sem,I];refine qn.up a.length (fun k U=>U.tm 0=lRel a/\U.tm 1=lRel b/\U.tm 5=aI k/\∀(i:Nat) (h:i<k) (R:i<a.length) (hb:i<b.length),a[i]=b[i]) ?_ ?_
  .exact ⟨zSi,zSi,zSi,fun i h=>absurd h (Nat.not_lt_zero i)⟩
  rintro k U hk ⟨p,t,C,l⟩;by_cases j:k<a.length
  .have g:k<b.length:=by omega
   have w1:=zWk k;simp[go_sem,p,t,C,j,g];refine cJ zKr ?_;simp[go_sem,p,t,C,j,g];refine tT (qi2 a[k] b[k] (T _ (qs j))) (.zk (q9 _) (.zk (q9 _) .nil)) ?_;by_cases J:a[k]=b[k]
   .simp [go_sem,p,t,C,j,g,J,w1]
    exact fun i hi _ _=>by
     by_cases h:i<k
     .exact l i h _ _
     .have:i=k:=by omega
      subst this;exact J
   .have o:¬a=b:=fun e=>J (by simp only[e])
    simp[go_sem,p,t,C,j,g,J];rw[decide_eq_false o];exact .zsc _
  .have he:a=b:=List.ext_getElem I fun i h h'=>l i zOm h h'
   simp[go_sem,p,t,C,show ¬k<a.length from j];rw[decide_eq_true he];exact .zsc _
 .have P:¬(a.length:Int)=b.length:=by omega
  have o:¬a=b:=fun e=>I (by rw[e])
  simp[go_sem,I,o];exact .zsc _
theorem qeE(l:List Rl):HF (lRel l):=HF.lst fun r i c g=>by
 obtain⟨n,_,rfl⟩:=qo.1 i;simp at g;rcases g with rfl|rfl
 .exact HF.sc _
 .exact zm _
theorem qr5{a b:Md}:a=b↔a.sc.sC=b.sc.sC/\a.sc.sN=b.sc.sN/\a.loop=b.loop/\a.sK=b.sK:=by
 obtain⟨⟨_,_⟩,_,_⟩:=a;obtain⟨⟨_,_⟩,_,_⟩:=b;simp;exact⟨fun h=>⟨h.1.1,h.1.2,h.2.2,h.2.1⟩,fun h=>⟨⟨h.1,h.2.1⟩,h.2.2.2,h.2.2.1⟩⟩
theorem qr6(a b:Md)(P:a.sc.sC.length<=1000000)(hs:a.sK.length<=1000000)(R:∀ s,s∈a.sK->s.length<=1000000/\∀ r,r∈s->r.ts.length<=4611686018427387904):qj qg 12 [eMd a,eMd b] (aB (decide (a=b))):=by
 refine qSU call12 func12 rfl ?_;refine tT (qr3 a.sc.sC b.sc.sC P) (.zk (zm _) (.zk (zm _) .nil)) ?_;by_cases c0:a.sc.sC=b.sc.sC
 case neg =>
  have g:¬a=b:=fun e=>c0 (by rw[e])
  simp[go_sem,c0,g];exact .zsc _
 by_cases c1:a.sc.sN=b.sc.sN
 case neg =>
  have g:¬a=b:=fun e=>c1 (by rw[e])
  simp[go_sem,c0,c1,g];exact .zsc _
 by_cases c2:a.loop=b.loop
 case neg =>
  have g:¬a=b:=fun e=>c2 (by rw[e])
  simp[go_sem,c0,c1,c2,g];exact .zsc _
 by_cases c3:a.sK.length=b.sK.length
 case neg =>
  have g:¬a=b:=fun e=>c3 (by rw[e])
  have T:¬(a.sK.length:Int)=b.sK.length:=zOm;simp[go_sem,c0,c1,c2,c3,g];exact .zsc _
 simp[go_sem,c0,c1,c2,c3];refine qn.up a.sK.length (fun k U=>U.tm 2 = .ip (cMd a)/\U.tm 3 = .ip (cMd b)/\U.tm 5=aI k/\∀(i:Nat) (h:i<k) (P:i<a.sK.length) (hb:i<b.sK.length),a.sK[i]=b.sK[i]) ?_ ?_
 .exact ⟨by simp[go_sem,c0,c1,c2],zSi,zSi,fun i h=>absurd h (Nat.not_lt_zero i)⟩
 rintro k U hk ⟨p,t,C,o⟩;by_cases l:k<a.sK.length
 .have j:k<b.sK.length:=by omega
  have w1:=zWk k;have I:=R _ (qs l);simp[go_sem,p,t,C,l,j];refine cJ zKr ?_;simp[go_sem,p,t,C,l,j];refine tT (qr4 a.sK[k] b.sK[k] I.1 I.2) (.zk (qeE _) (.zk (qeE _) .nil)) ?_;by_cases J:a.sK[k]=b.sK[k]
  .simp [go_sem,p,t,C,l,j,J,w1]
   exact fun i hi _ _=>by
    by_cases h:i<k
    .exact o i h _ _
    .have:i=k:=by omega
     subst this;exact J
  .have g:¬a=b:=fun e=>J (by simp only[e])
   simp[go_sem,p,t,C,l,j,J];rw[decide_eq_false g];exact .zsc _
 .have he:a=b:=qr5.2 ⟨c0,c1,c2,List.ext_getElem c3 fun i h h'=>o i zOm h h'⟩
  simp[go_sem,p,t,C,show ¬k<a.sK.length from l];rw[decide_eq_true he];exact .zsc _
end HH
namespace HI
end HI
namespace ID
end ID
namespace IE
end IE
namespace IK
open GH Y1 P1 Q4 E1 E3 GD G5 GF GQ GR GS GU GV GW GX GY HA IA IB IC YF Y16
structure Cx (ts:TS) (sc:Sc) (b:List Bd) (N:Nat):Prop where
 S:SpD ts
 hk:jB ts=[]
 F:Fit9 ts sc
 z:jd sc=true
 h5:sumI sc.sC<=5
 B:BndV ts sc b
 hS:sc.sN=N
 c9:(chs (vsT ts) (qB b 0) N).length<=9
theorem qeF{ts:TS}{sc:Sc}(F:Fit9 ts sc)(g:sumI sc.sC<=5){f:Fld}(hf:f∈ts.sA):(yL sc f.sS).length<=1000/\sorted (yL sc f.sS):=by
 obtain⟨a,b,_⟩:=mW F g _ (List.mem_map_of_mem (f:=fun f:Fld=>(⟨⟨f.sS.length,[]⟩,⟨f.sS.length,yL sc f.sS⟩⟩:Bd)) hf);exact⟨a,b⟩
theorem kI(M:Nat):∀(l:List Bd) (k:Nat),(∀ x,x∈l->x.up.ts.length<=M)->(qB l k).length<=l.length*M
 | [],k,_=>by simp[qB]
 |x :: l,k,h=>by
  have i:=h x zSp;have j:(y5 k x).length<=x.up.ts.length:=by rw[y5,zM];exact List.length_filter_le _ _
  have o:=kI M l (k+1) fun y g=>h y (zP1 g)
  simp only[qB,q8,zD,Nat.add_mul,Nat.one_mul];omega
namespace Cx
variable {ts:TS} {sc:Sc} {b:List Bd} {N:Nat}
theorem N1(X:Cx ts sc b N):1<=N:=by have:=X.F.s1;have:=X.hS;omega
theorem N4(X:Cx ts sc b N):N<=4:=by have:=X.F.s4;have:=X.hS;omega
theorem bl(X:Cx ts sc b N):b.length<=6:=by rw[X.B.len];exact X.F.nf
theorem bts(X:Cx ts sc b N):∀ x,x∈b->x.up.ts.length<=1000/\x.lo.ts.length<=1000/\sorted x.up.ts/\sorted x.lo.ts:=fun x g=>by
 obtain⟨i,j,rfl⟩:=Qs g;have l:i<ts.sA.length:=by rw[<-X.B.len];exact j
 obtain⟨s1,o⟩:=X.B.so _ g;have h:=qeF X.F X.h5 (qs l);have p:=YL o (X.B.full i j l);have r:=YL s1 (X.B.sub _ g);exact⟨zOm,zOm,o,s1⟩
theorem okf(X:Cx ts sc b N):∀ x,x∈b->Qk x:=fun x g=>by
 obtain⟨j,l,o,i⟩:=X.bts x g;exact⟨zOm,zOm,i.imp fun h=>zOm⟩
theorem fl(X:Cx ts sc b N):(qB b 0).length<=100000:=by
 have:=kI 1000 b 0 fun x g=>(X.bts x g).1
 have:=X.bl;omega
end Cx
abbrev LL(ts:TS)(sc:Sc)(b:List Bd)(N:Nat):List Md:=v6 sc (vsT ts) b (chs (vsT ts) (qB b 0) N) N
namespace Cx
variable {ts:TS} {sc:Sc} {b:List Bd} {N:Nat}
theorem len(X:Cx ts sc b N):(LL ts sc b N).length<=10000:=by
 rw[qmY];have g:2 ^ (chs (vsT ts) (qB b 0) N).length<=2 ^ 9:=Nat.pow_le_pow_right zOm X.c9;have:=Nat.mul_le_mul X.N4 g;omega
theorem inst(X:Cx ts sc b N):qj qg 13 [eTS ts,eSc sc,lBd b] (.tup [lMd (LL ts sc b N),aI 0]):=by
 have g:2 ^ (chs (vsT ts) (qB b 0) N).length<=2 ^ 9:=Nat.pow_le_pow_right zOm X.c9;have j:=Nat.mul_le_mul X.N4 g;exact qm0 ts sc b N X.hS X.N4 (zW1 X.bl) X.okf (fun x i=>⟨zW1 ((X.bts x i).2.1)⟩) (by rw[X.B.len];exact qt _) X.fl (zW1 X.c9) zOm (Kr ts sc X.F X.z) (qaR ts sc b X.F (qdV X.z) X.B)
theorem mdv(X:Cx ts sc b N){m:Md}(h:m∈LL ts sc b N):MdV ts m:=by
 obtain⟨k,c,g,i,rfl⟩:=Kq.1 h;exact qrN X.F X.z X.B X.hS g i
theorem sms(X:Cx ts sc b N){m:Md}(h:Betw sc (vsT ts) b N m):SmS m.sK:=by
 have t:=X.N4;have l:=h.ns;have C:=X.bl;refine⟨zOm,fun s g=>by rw[h.len s g];omega,fun s g r o=>?_⟩;obtain⟨k,i,rfl⟩:=Qs g;obtain⟨f,hf,rfl⟩:=Qs o;have I:=h.len _ (qs i);obtain⟨J,j,P,p⟩:=h.rel k f i zOm hf;have:=YL j p;have:=(X.bts _ (qs (show f<b.length by omega))).1;exact⟨zOm,j⟩
theorem betw(X:Cx ts sc b N){m:Md}(h:m∈LL ts sc b N):Betw sc (vsT ts) b N m:=qr1 X.B X.N1 h
theorem holds(X:Cx ts sc b N){m:Md}(h:m∈LL ts sc b N){n:Nd}(g:zj n=true):qj qg 16 [eTS ts,eMd m,eNd n] (.tup [aB (hV ⟨ts,m⟩ n).1,aI (hV ⟨ts,m⟩ n).2]):=
 qrF X.S X.hk (qrX X.S.h (X.mdv h)) (by rw[(X.betw h).ns];exact X.N1) g
end Cx
def MV(ts:TS)(sc:Sc)(b:List Bd)(N:Nat)(n:Nd):List Md×Int:=modV (fun m=>hV ⟨ts,m⟩ n) (LL ts sc b N) 0
namespace Cx
variable {ts:TS} {sc:Sc} {b:List Bd} {N:Nat}
theorem models(X:Cx ts sc b N){n:Nd}(g:zj n=true):qj qg 14 [eTS ts,eSc sc,lBd b,eNd n] (.tup [lMd (MV ts sc b N n).1,aI (MV ts sc b N n).2]):=
 qm2 ts sc b n (LL ts sc b N) 0 _ (zW1 X.len) X.inst fun m i=>X.holds i g
theorem qeG{n:Nd}:(MV ts sc b N n).1.Sublist (LL ts sc b N):=qr0 _ _
end Cx
end IK
namespace IL
open Y1 P1 GF GP GS GZ HC HD IK
variable {ts:TS} {sc:Sc} {b:List Bd} {N:Nat}
theorem qr7(X:Cx ts sc b N)(n:Nd):(MV ts sc b N n).1.Pairwise fun x y=>yp (qB b 0) N x y=true:=
 List.Pairwise.sublist Cx.qeG (kH sc (vsT ts) b N fun z g=>(X.B.so z g).2)
theorem qr8(X:Cx ts sc b N):(LL ts sc b N).Pairwise fun x y=>yp (qB b 0) N x y=true:=kH sc (vsT ts) b N fun z g=>(X.B.so z g).2
theorem kJ(X:Cx ts sc b N)(g:List (List Bool))(lp:Int)(r:0<=lp):anyM sc (vsT ts) b g (lp % sc.sN)∈LL ts sc b N:=by
 have t:=X.N1;have o:0<=lp % sc.sN/\lp % sc.sN<N:=⟨Int.emod_nonneg _ (zW1 X.hS),zW2 (Int.emod_lt_of_pos lp (b:=sc.sN) (zW1 X.hS)) X.hS⟩;obtain⟨k,p⟩:=Int.eq_ofNat_of_zero_le o.1;rw[p];refine qrM sc (vsT ts) b g N k X.hS zOm (fun x j=>?_) (fun x j=>(X.bts x j).2.2.1) X.B.sub;obtain⟨i,l,rfl⟩:=Qs j;obtain⟨C,I⟩:=X.B.lo i l (by rw[<-X.B.len];exact l);omega
end IL
namespace I1
open YF P1 EO EP EQ F4 GF GR GS GU
theorem qr9(l:List Int)(x:Int)(P:l.length<=1000000000):qj qg 103 [lI l,aI x] (aB (decide (x∈l))):=by
 refine qSU call103 func103 rfl ?_;refine qn.up l.length (fun k U=>U.tm 0=lI l/\U.tm 1=aI x/\U.tm 5=aI k/\U.mu=[]/\∀(i:Nat) (h:i<l.length),i<k->l[i]≠x) ?_ ?_
 .simp [go_sem]
 rintro k U R ⟨o,p,r,t,J⟩;by_cases g:k<l.length
 .by_cases j:l[k]=x
  .simp [go_sem,o,p,r,t,g,j]
   rw[decide_eq_true (by rw[<-j];exact qs g)];exact .zsc _
  .simp [go_sem,o,p,r,t,g,j]
   refine⟨zWr,fun i h C=>?_⟩;rcases Nat.lt_succ_iff_lt_or_eq.1 C with I|I
   .exact J i h I
   .subst I;exact j
 .simp [go_sem,o,p,r,t,g]
  rw[decide_eq_false (fun h=>by
   obtain⟨i,C,e⟩:=uV.1 h;exact J i C zOm e)]
  exact .zsc _
def wM(k:Nat)(x:Bd)(j:Nat):List (Int×Int):=((x.up.ts.take j).filter fun t=>!decide (t∈x.lo.ts)).map fun t=>((k:Int),t)
theorem qsA(k:Nat)(x:Bd)(j:Nat)(h:j<x.up.ts.length):wM k x (j+1)=wM k x j++(if x.up.ts[j]∈x.lo.ts then [] else [((k:Int),x.up.ts[j])]):=by
 unfold wM;rw[yw h,List.filter_append,za];by_cases g:x.up.ts[j]∈x.lo.ts<;>simp[g]
theorem qsB(k:Nat)(x:Bd)(j:Nat):(wM k x j).length<=x.up.ts.length:=by
 unfold wM;rw[zM];exact zK (List.length_filter_le _ _) (List.length_take_le' _ _)
theorem qsC(l:List Bd)(hl:l.length<=1000)(hb:∀ x,x∈l->Qk x):qj qg 56 [lBd l] (lP (qB l 0)):=by
 refine qSU call56 func56 rfl ?_;refine kM l.length (fun k U=>U.tm 0=lBd l/\U.tm 4=aI k/\Own U.mu 2 (U.tm 3) ((qB (l.take k) 0).map rP)) ?_ ?_
 .exact ⟨zSi,zSi,.inl (by simp[go_sem,qB])⟩
 rintro k U hk ⟨t,C,I⟩;by_cases o:k<l.length
 .have w1:=zWk k
  have hx:=hb _ (qs o);have a3:=hx.up;have a4:=hx.lo;have a1:=J5 (l.take k) 0 fun y hy=>hb y (List.mem_of_mem_take hy)
  have a5:(qB (l.take k) 0).length<=1000000000:=by
   have h2:(l.take k).length<=1000:=zSo;have h3:=Nat.mul_le_mul_right 1000000 h2;omega
  have J:=qaB l k o;have P:wM k l[k] l[k].up.ts.length=y5 k l[k]:=by unfold wM;rw[qT];rfl
  simp[go_sem,t,C,o];refine kM l[k].up.ts.length (fun j st2=>st2.tm 0=lBd l/\st2.tm 4=aI k/\st2.tm 5=aI j/\Own st2.mu 2 (st2.tm 3) ((qB (l.take k) 0++wM k l[k] j).map rP)) ?_ ?_
  .exact ⟨zS1 t,zS1 C,zSi,by simpa[go_sem,wM] using I⟩
  clear t C I;rintro j st2 hj ⟨t,C,T,I⟩;by_cases r:j<l[k].up.ts.length
  .have w2:=zWk j
   have hh:=qr9 l[k].lo.ts l[k].up.ts[j] zOm;have hs:=qsA k l[k] j r;have a6:=qsB k l[k] j;simp[go_sem,t,C,T,o,r];refine cJ zKr ?_;simp[go_sem,t,C,T,o,r];refine tT hh (.zk (zm _) (.zs .nil)) ?_;by_cases hm:l[k].up.ts[j]∈l[k].lo.ts
   .rw [if_pos hm,zN]at hs
    simp[go_sem,hm,T,r,w2]
    try refine⟨r,aK ?_⟩
    try refine aK ?_
    refine⟨zS1 t,zS1 C,zSi,?_⟩;rw[hs];simpa[go_sem] using I
   .rw [if_neg hm]at hs
    simp[go_sem,hm,t,C,T,o,r];refine qA.ownB (e:=91) (sz:=2) (bt:=16) (zv := .agg [aI 0,aI 0]) (xs:=(qB (l.take k) 0++wM k l[k] j).map rP) (ys:=[rP ((k:Int),l[k].up.ts[j])]) zSi zSi zSi rfl rfl zOm zOm I (by simp[qF]) (J4 _) (J4 [_]) zSo ?_;intro a7 a8 a0 _ _ _;simp[go_sem,T,r,w2]
    try refine⟨r,aK ?_⟩
    try refine aK ?_
    refine⟨zS1 t,zS1 C,zSi,?_⟩;rw[hs,<-zq,za (l₂:=[_])];simpa[go_sem] using a0
  .have R:j=l[k].up.ts.length:=by omega
   subst R;rw[P,<-J]at I;simp[go_sem,t,C,T,o,w1]
   try refine⟨o,aK ?_⟩
   try refine aK ?_
   exact⟨zS1 t,zSi,zVs I⟩
 .have R:k=l.length:=by omega
  subst R;rw[qT]at I;simp[go_sem,t,C];exact cP I
theorem qsD(ts:TS)(sc:Sc)(bs:List Bd)(N:Nat)(hS:sc.sN=N)(hN:N<=4)(hl:bs.length<=1000)(hb:∀ x,x∈bs->Qk x)(ae:bs.length<=ts.sA.length)(a8:(qB bs 0).length<=100000) :
  qj qg 22 [eTS ts,eSc sc,lBd bs] (lCh (chs (vsT ts) (qB bs 0) N)):=by
 have a4:=qsC bs hl hb;have a6:=J7 bs 0;generalize hF:qB bs 0=F at *
 refine qSU call22 func22 rfl ?_;refine fR a4 (.zk (yR _) .nil) ?_;refine kM N (fun k U=>U.tm 3 = .ip (cTS ts)/\U.tm 4 = .ip [lI sc.sC,aI sc.sN]/\U.tm 8=lP F/\U.tm 9=aI k/\Own U.mu 3 (U.tm 7) ((chs (vsT ts) F k).map rC)) ?_ ?_
 .exact ⟨zSi,zSi,zSi,zSi,.inl (by simp[go_sem,chs])⟩
 rintro k U hk ⟨e3,e4,I,J,ho⟩;by_cases a7:k<N
 .have w1:=zWk k
  have n4:(k:Int)<4:=zOm;have af:=Ko (vsT ts) F k;have ab:k*F.length<=4*100000:=Nat.mul_le_mul zOm a8;simp[go_sem,e4,I,J,hS,a7,n4];refine kM F.length (fun j st2=>st2.tm 3 = .ip (cTS ts)/\st2.tm 4 = .ip [lI sc.sC,aI sc.sN]/\st2.tm 8=lP F/\st2.tm 9=aI k/\st2.tm 10=aI j/\Own st2.mu 3 (st2.tm 7) ((chs (vsT ts) F k++chA (vsT ts) k (F.take j)).map rC)) ?_ ?_
  .exact ⟨zS1 e3,zS1 e4,zS1 I,zS1 J,zSi,by simpa[go_sem,chA] using ho⟩
  clear e3 e4 I J ho;rintro j st2 hj ⟨e3,e4,I,J,o,a2⟩;by_cases l:j<F.length
  .have w2:=zWk j
   have hm:=a6 _ (qs l);obtain⟨f,hf⟩:=Int.eq_ofNat_of_zero_le (show 0<=F[j].1 by have:=hm.1;simpa using this);have t:f<ts.sA.length:=by have:=hm.2;rw[hf]at this;simp at this;omega
   have a0:0<=F[j].1:=zOm;have a1:F[j].1.toNat=f:=zOm;have P:F[j].1<ts.sA.length:=zOm;have a9:(vsT ts).getD F[j].1.toNat true=ts.sA[f].var:=by rw[hf,Int.toNat_natCast,zH,zg,qy t];rfl
   have ag:=Kn (vsT ts) k (F.take j);have ah:=List.length_take_le j F;have hs:=qaD (vsT ts) k F j l;rw[a9]at hs;have a3:∀(K:AV->Mu->Prop),(∀ R T,Own T 3 R ((chs (vsT ts) F k++(chA (vsT ts) k (F.take j)++[((k:Int),F[j].1,F[j].2)])).map rC)->K R T)->qA qg st2.mu #[68,68] (st2.tm 7) (.lst true [[aI k,aI F[j].1,aI F[j].2]]) K:=fun K hK=>by
    refine qA.ownB (e:=124) (sz:=3) (bt:=24) (zv := .agg [aI 0,aI 0,aI 0]) (xs:=(chs (vsT ts) F k++chA (vsT ts) k (F.take j)).map rC) (ys:=[rC ((k:Int),F[j].1,F[j].2)]) zSi zSi zSi rfl rfl zOm zOm a2 (by simp[qF]) (YI _) (YI [_]) zSo ?_;intro R T aa _ _ _;exact hK R T (by rw[<-zq,za (l₂:=[_])];exact aa)
   by_cases hc:(decide (k=0)||ts.sA[f].var)=true
   .rw [if_pos hc]at hs
    by_cases C:k=0
    .subst C
     simp[go_sem,I,J,o,l];refine cJ zKr ?_;simp[go_sem,I,J,o,l];refine cJ zKr ?_;simp[go_sem,I,J,o,l];refine a3 _ fun R T h1=>?_
     simp[go_sem,o,l,w2]
     try refine⟨l,aK ?_⟩
     try refine aK ?_
     refine⟨zS1 e3,zS1 e4,zS1 I,zS1 J,zSi,?_⟩;rw[hs];simpa[go_sem] using h1
    .have hv:ts.sA[f].var=true:=by simpa[C] using hc
     simp[go_sem,e3,I,J,o,l,C,a0,a1,P,t,hv];refine cJ zKr ?_;simp[go_sem,e3,I,J,o,l,C,a0,a1,P,t,hv];refine cJ zKr ?_;simp[go_sem,e3,I,J,o,l,C,a0,a1,P,t,hv];refine a3 _ fun R T h1=>?_
     simp[go_sem,o,l,w2]
     try refine⟨l,aK ?_⟩
     try refine aK ?_
     refine⟨zS1 e3,zS1 e4,zS1 I,zS1 J,zSi,?_⟩;rw[hs];simpa[go_sem] using h1
   .rw [if_neg hc,zN]at hs
    have C:¬k=0:=fun h=>hc (zP1 h)
    have hv:ts.sA[f].var=false:=by simpa[C] using hc
    simp[go_sem,e3,I,J,o,l,C,a0,a1,P,t,hv,w2];refine cJ zKr ?_;simp[go_sem,e3,I,J,o,l,C,a0,a1,P,t,hv,w2]
    try refine⟨l,aK ?_⟩
    try refine aK ?_
    refine⟨zS1 e3,zS1 e4,zS1 I,zS1 J,zSi,?_⟩;rw[hs];simpa[go_sem] using a2
  .have a5:j=F.length:=by omega
   subst a5;rw[qT]at a2;simp[go_sem,I,J,o,w1]
   try refine⟨a7,aK ?_⟩
   try refine aK ?_
   refine⟨zS1 e3,zS1 e4,zS1 I,zSi,?_⟩;rw[Km];simpa[go_sem] using a2
 .have a5:k=N:=by omega
  subst a5;simp[go_sem,e4,J,hS];exact Own.rd ho (YI _).ok fun r hr c hc=>by
   obtain⟨n,_,rfl⟩:=qo.1 hr;simp at hc;rcases hc with rfl|rfl|rfl<;>exact HF.sc _
end I1
end Go.Proofs.YtahmfpfdgiemoaaGreatDoor
namespace Go.Ev
open Go Go.RowKit
section
variable {β:Type}
end
end Go.Ev
namespace Go.Proofs.YtahmfpfdgiemoaaGreatDoor
open Go Go.Ev Go.Proofs Tryz
namespace JB
end JB
namespace JC
end JC
namespace JE
end JE
namespace JF
end JF
namespace JG
end JG
namespace W41
open Y1 YF P1 GS
abbrev u8(x:Int):AV := .sc (.int .u8 x)
abbrev lRaw(r:List (List Int)):AV := .lst false (r.map fun l=>[.lst false (l.map fun x=>[u8 x])])
abbrev uu(ts:TS)(sc:Sc)(raw:List (List Int))(n:Nd)(g:List (List Bool))(lp:Int):List AV:=cTS ts++([lI sc.sC,aI sc.sN,lRaw raw]++(cNd n++[lBB g,u8 lp]))
end W41
namespace I2
open YF P1 EO EP EQ F4 GF G5 GR GS GW HE W41
theorem qsE(ts:TS)(sc:Sc)(F:Fit9 ts sc):qD qg 24 [eTS ts,eSc sc] [] (fun e m=>∃ av,e = .ret av/\Own m 4 av (ts.sA.map (rowD sc))/\(0<ts.sA.length->∃ b,qp av=some b)):=by
 have a0:=F.nf;refine qSW call24 func24 rfl {} ?_;simp[go_sem];refine kM ts.sA.length (fun k U=>U.tm 2 = .ip (cTS ts)/\U.tm 3 = .ip [lI sc.sC,aI sc.sN]/\U.tm 6=aI k/\Own U.mu 4 (U.tm 5) ((ts.sA.take k).map (rowD sc))/\(0<k->∃ b,qp (U.tm 5)=some b)) ?_ ?_
 .exact ⟨zSi,zSi,zSi,.inl zSi,fun h=>absurd h zOm⟩
 rintro k U hk ⟨t,e3,C,I,J⟩;by_cases l:k<ts.sA.length
 .have w1:=zWk k
  have o:=qs l;have r:=nX sc F.g F.p ts.sA[k].sS (F.f1 _ o).1 (F.f1 _ o).2 (F.fs _ o);simp[go_sem,t,C,l];refine cJ zKr ?_;simp[go_sem,t,e3,C,l];refine fR r (.zk (zF _) (.zk (zm _) .nil)) ?_;refine .inl (jZ.ownB (e:=113) (sz:=4) (bt:=64) (zv := .agg [aI 0,.lst true [],aI 0,.lst true []]) (xs:=(ts.sA.take k).map (rowD sc)) (ys:=[rowD sc ts.sA[k]]) zSi zSi zSi rfl rfl zOm zOm I (by simp[qF,rowD]) (J1 sc _) (J1 sc [_]) zSo ?_);intro a1 j P _ _ _ R;simp[go_sem,C,l,w1];refine aK ⟨zS1 t,zS1 e3,zSi,?_,fun _=>by simp[go_sem];exact R zSp⟩;rw[yw l,za];simpa[go_sem] using P
 .have T:k=ts.sA.length:=by omega
  subst T;rw[qT]at I;simp[go_sem,t,C];exact⟨I,J⟩
def jV(ts:TS)(sc:Sc)(raw:List (List Int))(k:Nat):List (List AV):=((yj ts sc raw).take k).map cBd++(ts.sA.drop k).map (rowD sc)
theorem qsF(ts:TS)(sc:Sc)(raw:List (List Int))(k:Nat)(h:k<=ts.sA.length):(jV ts sc raw k).length=ts.sA.length:=by
 simp[jV,Qq];omega
theorem qsG(ts:TS)(sc:Sc)(raw:List (List Int))(k:Nat):yQ 4 (jV ts sc raw k):=fun r g=>by
 rcases qM.1 g with h|h
 .obtain ⟨x,_,rfl⟩:=qo.1 h;rfl
 .obtain ⟨x,_,rfl⟩:=qo.1 h;rfl
theorem qsH(ts:TS)(sc:Sc)(raw:List (List Int))(k:Nat)(h:k<ts.sA.length):(jV ts sc raw k)[k]?=some (rowD sc ts.sA[k]):=by
 have g:(((yj ts sc raw).take k).map cBd).length=k:=by simp[Qq];omega
 simp_all[jV,zE,Nat.sub_self,zg,List.getElem?_drop,Nat.add_zero,qy]
theorem qsI(ts:TS)(sc:Sc)(raw:List (List Int))(k:Nat)(h:k<ts.sA.length):(jV ts sc raw k).set k (cBd ((yj ts sc raw)[k]'(by rw[Qq];exact h)))=jV ts sc raw (k+1):=by
 have g:(((yj ts sc raw).take k).map cBd).length=k:=by simp[Qq];omega
 have i:k<(yj ts sc raw).length:=by rw[Qq];exact h
 unfold jV;rw[List.set_append_right _ _ zOm,g,Nat.sub_self,zp h,z6,List.set_cons_zero,yw i,za,zq];rfl
theorem cV{Q:qV->St->Prop}{i d d' L:Nat}{x x':AV}{st:St}(o:d≠d')(l:Rd (cutM (fun j=>decide (L<=j)) st.mu 0) (st.tm d) x)(g:Rd (cutM (fun j=>decide (L<=j)) st.mu 0) (st.tm d') x')
  (k:Q (.exit i) ((st.put (some d) x st.mu).put (some d') x' (cutM (fun j=>!decide (L<=j)) st.mu 0))):FzQ Q (.exit i) st:=by
 refine⟨_,⟨fun j=>decide (L<=j),rfl,fun j=>?_⟩,trivial,k⟩;simp only[St.put];split
 .rename_i h;subst h;exact .rd _ _ g
 .split
  .rename_i h;subst h;exact .rd _ _ l
  .exact .same _
theorem kK{sz:Nat}:∀{xs:List (List AV)},yQ sz xs->∀(i:Nat) (h:i<xs.length) (j:Nat),j<sz->xs.flatten[i*sz+j]?=xs[i][j]?
 | [],_,i,h,j,l=>absurd h (Nat.not_lt_zero i)
 |r :: xs,w,i,h,j,l=>by
  have g:r.length=sz:=w r zSp;rw[List.flatten_cons];cases i with
  |zero=>grind
  |succ i =>
   rw[zE (by grind),g,show (i+1)*sz+j-sz=i*sz+j by rw[Nat.succ_mul];omega];exact kK (fun r g=>w r (zP1 g)) i (zUs h) j l
theorem Own.same{sz:Nat}{mu mu':Mu}{av:AV}{xs:List (List AV)}(h:Own mu sz av xs)(g:∀ b,qp av=some b->mu'[b]?=mu[b]?):Own mu' sz av xs:=by
 rcases h with rfl|⟨b,rfl,i⟩
 .exact .inl rfl
 .exact .inr ⟨b,rfl,by rw[g b rfl];exact i⟩
theorem qsJ(ts:TS)(sc:Sc)(F:Fit9 ts sc)(raw:List (List Int))(hr:∀ l,l∈raw->∀ x,x∈l->0<=x/\x<=255):qj qg 18 [eTS ts,eSc sc,lRaw raw] (lBd (yj ts sc raw)):=by
 have cg:=F.nf;have b3:=qsE ts sc F;have an:=Qq ts sc raw;refine qSU call18 func18 rfl ?_;refine fQ b3 ?_ (by grind);rintro r m ⟨t,h,ch,bc⟩;cases h;simp[go_sem];refine kM ts.sA.length (fun k st=>st.tm 2=lRaw raw/\st.tm 7=r/\st.tm 8=aI k/\Own st.mu 4 r (jV ts sc raw k)) ?_ ?_
 .simp_all [go_sem,jV]
 rintro k st hk ⟨e2,e7,e8,ho⟩;have b4:=qsF ts sc raw k hk;have ag:=qsG ts sc raw k;by_cases a9:k<ts.sA.length
 .have w1:=zWk k
  have ao:=qsH ts sc raw k a9;obtain⟨BK,cj,be⟩:∃ BK,(yj ts sc raw)[k]?=some BK/\BK=Wf (raw.getD k []) ⟨⟨ts.sA[k].sS.length,[]⟩,⟨ts.sA[k].sS.length,yL sc ts.sA[k].sS⟩⟩:=⟨_,qy zOm,Wg ts sc raw k zOm a9⟩;have ai:(jV ts sc raw k).set k (cBd BK)=jV ts sc raw (k+1):=by
   grind [qsI,qm]
  have ck:=qaQ sc F.g ts.sA[k].sS (F.f1 _ (qs a9)).2;generalize hW:jV ts sc raw k=W at ho b4 ag ao ai;obtain⟨B,hB⟩:=bc zOm;rcases ho with h|⟨B',h,hc⟩
  .rw [h]at hB;cases hB
  .rw [h]at hB;cases hB
   have bg:W.flatten.length=W.length*4:=by rw[yP ag]
   have bi:=(qm.1 hc).1;have cl:W.flatten[k*4+2]?=some (aI ts.sA[k].sS.length):=by
    have:=kK ag k zOm 2 zOm;rw[this,(qm.1 ao).2];rfl
   have cm:W.flatten[k*4+3]?=some (lI (yL sc ts.sA[k].sS)):=by
    have:=kK ag k zOm 3 zOm;rw[this,(qm.1 ao).2];rfl
   have b5:=fun x:List AV=>Jk W k x ag
   have cn:=bg;generalize cp:(ts.sA[k].sS.length:Int)=o at *
   generalize cq:yL sc ts.sA[k].sS=U at *
   generalize bj:raw.getD k []=rw at *
   generalize cr:W.flatten=FL at *
   have bk:(FL.drop (k*4+2)).take 2=[aI o,lI U]:=by
    grind [qm,zp]
   simp[go_sem,e7,e8,h,b4,a9,hc];refine tS (.agg [aI o,lI U]) (by rw[if_pos zOm,bk]) ?_;simp[go_sem];generalize hR:st.mu.length=R at *
   refine fB U.length (fun j=>Keep (fun st2=>st2.tm 2=lRaw raw/\st2.tm 7=r/\st2.tm 8=aI k/\st2.tm 9 = .ptr R 0/\st2.tm 10 = .ptr (R+1) 0/\st2.tm 11 = .ptr (R+2) 0/\st2.tm 12=aI j/\∃ C a0,st2.mu[R]?=some (.arr [aI o,lI U])/\st2.mu[R+1]?=some (.arr [aI o,C])/\st2.mu[R+2]?=some (.arr [aI o,a0]) /\
    Own st2.mu 1 C ((selW (fun x=>decide (1<x)) rw (U.take j) 0).map rI)/\Own st2.mu 1 a0 ((selW (fun x=>decide (0<x)) rw (U.take j) 0).map rI)/\(∀ b,qp C=some b->R+3<=b)/\(∀ b,qp a0=some b->R+3<=b)/\(∀ b,qp C=some b->qp a0≠some b)/\∀ i,i<R->st2.mu[i]?=st.mu[i]?) .mk) ?_ ?_
   .exact aK ⟨zS1 e2,zS1 e7,zS1 e8,zSi,zSi,zSi,zSi,.lst true [],.lst true [],zS1 hR,zS1 hR,zS1 hR,.inl (by simp[selW]),.inl (by simp[selW]),by simp[qp],by simp[qp],by simp[qp],fun i hi=>by simp_all[go_sem,qI]⟩
   rintro j st2 hj ⟨f2,f7,f8,f9,f10,f11,f12,C,a0,c9,c10,c11,ol,oh,bl,bh,nb,low⟩;by_cases J:j<U.length
   .skip
    have w2:=zWk j;have aq:=qeB (fun x=>decide (1<x)) rw U j J;have au:=qeB (fun x=>decide (0<x)) rw U j J;by_cases aa:k<raw.length
    .have bm:rw=raw[k]:=by grind
     by_cases ab:j<raw[k].length
     .have cs:=hr _ (qs aa) _ (qs ab)
      have hx:(raw[k][j]).tmod 4=wtR rw j:=by
       simp_all[Int.tmod_eq_emod_of_nonneg,wtR,if_pos,zH,qy]
      have ct:0<=wtR rw j/\wtR rw j<4:=by grind
      generalize hw:wtR rw j=w at *
      rcases (show w=0\/w=1\/1<w by omega) with bn|a5|aw
      .rw [bn]at hx
       have sl:selW (fun x=>decide (1<x)) rw (U.take (j+1)) 0=selW (fun x=>decide (1<x)) rw (U.take j) 0:=by grind
       have sh:selW (fun x=>decide (0<x)) rw (U.take (j+1)) 0=selW (fun x=>decide (0<x)) rw (U.take j) 0:=by grind
       simp[go_sem,f2,f8,f9,f12,c9,J,w2,aa,ab,hx];simp_all[go_sem,aK]
      .rw [a5]at hx
       have sl:selW (fun x=>decide (1<x)) rw (U.take (j+1)) 0=selW (fun x=>decide (1<x)) rw (U.take j) 0:=by grind
       have sh:selW (fun x=>decide (0<x)) rw (U.take (j+1)) 0=selW (fun x=>decide (0<x)) rw (U.take j) 0++[U[j]]:=by grind
       simp[go_sem,f2,f8,f9,f12,c9,J,aa,ab,hx];refine cJ zKr ?_;simp[go_sem,f9,f11,f12,c9,c11,J];refine qA.ownB (e:=3) (sz:=1) (bt:=8) (zv:=aI 0) (xs:=(selW (fun x=>decide (0<x)) rw (U.take j) 0).map rI) (ys:=[rI U[j]]) zSi zSi zSi rfl rfl zOm zOm oh (by simp[qF]) (yu _) (yu [_]) (by grind [wL,decide,List.length_take_le]) ?_;intro P mh T I a1 ax;have d9:mh[R]?=some (.arr [aI o,lI U]):=by grind
       have d10:mh[R+1]?=some (.arr [aI o,C]):=by grind
       have d11:mh[R+2]?=some (.arr [aI o,a0]):=by grind
       have ad:=(qm.1 d11).1;have aj:=(qm.1 c11).1;have a6:Own mh 1 C ((selW (fun x=>decide (1<x)) rw (U.take j) 0).map rI):=Own.same ol fun b hb=>I b (Own.lt ol hb) (nb b hb)
       have ae:=Own.set a6 (i:=R+2) (.arr [aI o,P]) (fun h=>by grind);have a4:=Own.set T (i:=R+2) (.arr [aI o,P]) (fun h=>by grind);have a7:∀ b,qp P=some b->R+3<=b:=fun b h=>by grind
       have af:∀ b,qp C=some b->qp P≠some b:=fun b h h2=>by grind [Own.lt]
       have a2:∀ i,i<R->(mh.set (R+2) (.arr [aI o,P]))[i]?=st.mu[i]?:=fun i hi=>by
        rw[zGl,I i zOm (fun h=>zW1 (bh i h))];exact low i hi
       simp[go_sem,f11,f12,d11,J,w2,Own.one T,Own.cells T];simp_all[go_sem,aK,za]
      .skip
       have ay:0<w:=zOm;have sl:selW (fun x=>decide (1<x)) rw (U.take (j+1)) 0=selW (fun x=>decide (1<x)) rw (U.take j) 0++[U[j]]:=by simpa[aw] using aq
       have sh:selW (fun x=>decide (0<x)) rw (U.take (j+1)) 0=selW (fun x=>decide (0<x)) rw (U.take j) 0++[U[j]]:=by simpa[ay] using au
       simp[go_sem,f2,f8,f9,f12,c9,J,ay,aw,aa,ab,hx];refine cJ zKr ?_;simp[go_sem,f9,f11,f12,c9,c11,J];refine qA.ownB (e:=3) (sz:=1) (bt:=8) (zv:=aI 0) (xs:=(selW (fun x=>decide (0<x)) rw (U.take j) 0).map rI) (ys:=[rI U[j]]) zSi zSi zSi rfl rfl zOm zOm oh (by simp[qF]) (yu _) (yu [_]) (by have:=(wL (fun x=>decide (0<x)) rw (U.take j) 0).length_le;have:=List.length_take_le j U;simp;omega) ?_;intro P mh T I a1 ax;have d9:mh[R]?=some (.arr [aI o,lI U]):=by rw[I R (qm.1 c9).1 (fun h=>zW1 (bh R h))];exact c9
       have d10:mh[R+1]?=some (.arr [aI o,C]):=by rw[I (R+1) (qm.1 c10).1 (fun h=>zW1 (bh _ h))];exact c10
       have d11:mh[R+2]?=some (.arr [aI o,a0]):=by rw[I (R+2) (qm.1 c11).1 (fun h=>zW1 (bh _ h))];exact c11
       have ad:=(qm.1 d11).1;have aj:=(qm.1 c11).1;have a6:Own mh 1 C ((selW (fun x=>decide (1<x)) rw (U.take j) 0).map rI):=Own.same ol fun b hb=>I b (Own.lt ol hb) (nb b hb)
       have ae:=Own.set a6 (i:=R+2) (.arr [aI o,P]) (fun h=>zW1 (bl _ h));have a4:=Own.set T (i:=R+2) (.arr [aI o,P]) (fun h=>zW1 (a1 _ h));have a7:∀ b,qp P=some b->R+3<=b:=fun b h=>zW1 (a1 b h)
       have af:∀ b,qp C=some b->qp P≠some b:=fun b h h2=>zW2 (a1 b h2) (Own.lt ol h)
       have a2:∀ i,i<R->(mh.set (R+2) (.arr [aI o,P]))[i]?=st.mu[i]?:=fun i hi=>by
        rw[zGl,I i zOm (fun h=>zW1 (bh i h))];exact low i hi
       simp[go_sem,f11,d11,ay,aw,Own.one T,Own.cells T];refine cJ zKr ?_;have e9:(mh.set (R+2) (.arr [aI o,P]))[R]?=some (.arr [aI o,lI U]):=by rw[zGl];exact d9
       have az:(mh.set (R+2) (.arr [aI o,P]))[R+1]?=some (.arr [aI o,C]):=by rw[zGl];exact d10
       have b0:(mh.set (R+2) (.arr [aI o,P]))[R+2]?=some (.arr [aI o,P]):=qL ad;generalize cu:mh.set (R+2) (.arr [aI o,P])=M2 at *
       simp[go_sem,f9,f10,f12,e9,az,J];refine qA.ownB (e:=3) (sz:=1) (bt:=8) (zv:=aI 0) (xs:=(selW (fun x=>decide (1<x)) rw (U.take j) 0).map rI) (ys:=[rI U[j]]) zSi zSi zSi rfl rfl zOm zOm ae (by simp[qF]) (yu _) (yu [_]) (by have:=(wL (fun x=>decide (1<x)) rw (U.take j) 0).length_le;have:=List.length_take_le j U;simp;omega) ?_;intro al ml b1 ak b2 cv;have g9:ml[R]?=some (.arr [aI o,lI U]):=by rw[ak R (qm.1 e9).1 (fun h=>zW1 (bl R h))];exact e9
       have b6:ml[R+1]?=some (.arr [aI o,C]):=by rw[ak (R+1) (qm.1 az).1 (fun h=>zW1 (bl _ h))];exact az
       have bo:ml[R+2]?=some (.arr [aI o,P]):=by rw[ak (R+2) (qm.1 b0).1 (fun h=>zW1 (bl _ h))];exact b0
       have l10:=(qm.1 b6).1;have cf:=(qm.1 b0).1;have bq:Own ml 1 P ((selW (fun x=>decide (0<x)) rw (U.take j) 0++[U[j]]).map rI):=by
        rw[za];exact Own.same a4 fun b hb=>ak b (Own.lt a4 hb) (fun h=>af b h hb)
       have br:=Own.set b1 (i:=R+1) (.arr [aI o,al]) (fun h=>zW1 (b2 _ h));have bs:=Own.set bq (i:=R+1) (.arr [aI o,al]) (fun h=>zW1 (a7 _ h));simp[go_sem,f10,f12,b6,J,w2,Own.one b1,Own.cells b1]
       try refine⟨J,aK ?_⟩
       try refine aK ?_
       refine⟨zS1 f2,zS1 f7,zS1 f8,zS1 f9,zS1 f10,zS1 f11,zSi,al,P,by simp[go_sem];exact g9,zS1 l10,by simp[go_sem];exact bo,by rw[sl,za];simpa[go_sem] using br,by rw[sh];simpa[go_sem] using bs,fun b h=>zW1 (b2 b h),a7,fun b h h2=>zW2 (b2 b h) (Own.lt a4 h2),fun i hi=>?_⟩;simp[go_sem];rw[zGl,ak i zOm (fun h=>zW1 (bl i h))];exact a2 i hi
     .have a5:wtR rw j=1:=by rw[wtR,bm,if_neg ab]
      have sl:selW (fun x=>decide (1<x)) rw (U.take (j+1)) 0=selW (fun x=>decide (1<x)) rw (U.take j) 0:=by simpa[a5] using aq
      have sh:selW (fun x=>decide (0<x)) rw (U.take (j+1)) 0=selW (fun x=>decide (0<x)) rw (U.take j) 0++[U[j]]:=by simpa[a5] using au
      simp[go_sem,f2,f8,f9,f12,c9,J,aa,ab];refine cJ zKr ?_;simp[go_sem,f9,f11,f12,c9,c11,J];refine qA.ownB (e:=3) (sz:=1) (bt:=8) (zv:=aI 0) (xs:=(selW (fun x=>decide (0<x)) rw (U.take j) 0).map rI) (ys:=[rI U[j]]) zSi zSi zSi rfl rfl zOm zOm oh (by simp[qF]) (yu _) (yu [_]) (by have:=(wL (fun x=>decide (0<x)) rw (U.take j) 0).length_le;have:=List.length_take_le j U;simp;omega) ?_;intro P mh T I a1 ax;have d9:mh[R]?=some (.arr [aI o,lI U]):=by rw[I R (qm.1 c9).1 (fun h=>zW1 (bh R h))];exact c9
      have d10:mh[R+1]?=some (.arr [aI o,C]):=by rw[I (R+1) (qm.1 c10).1 (fun h=>zW1 (bh _ h))];exact c10
      have d11:mh[R+2]?=some (.arr [aI o,a0]):=by rw[I (R+2) (qm.1 c11).1 (fun h=>zW1 (bh _ h))];exact c11
      have ad:=(qm.1 d11).1;have aj:=(qm.1 c11).1;have a6:Own mh 1 C ((selW (fun x=>decide (1<x)) rw (U.take j) 0).map rI):=Own.same ol fun b hb=>I b (Own.lt ol hb) (nb b hb)
      have ae:=Own.set a6 (i:=R+2) (.arr [aI o,P]) (fun h=>zW1 (bl _ h));have a4:=Own.set T (i:=R+2) (.arr [aI o,P]) (fun h=>zW1 (a1 _ h));have a7:∀ b,qp P=some b->R+3<=b:=fun b h=>zW1 (a1 b h)
      have af:∀ b,qp C=some b->qp P≠some b:=fun b h h2=>zW2 (a1 b h2) (Own.lt ol h)
      have a2:∀ i,i<R->(mh.set (R+2) (.arr [aI o,P]))[i]?=st.mu[i]?:=fun i hi=>by
       rw[zGl,I i zOm (fun h=>zW1 (bh i h))];exact low i hi
      simp[go_sem,f11,f12,d11,J,w2,Own.one T,Own.cells T]
      try refine⟨J,aK ?_⟩
      try refine aK ?_
      refine⟨zS1 f2,zS1 f7,zS1 f8,zS1 f9,zS1 f10,zS1 f11,zSi,C,P,by simp[go_sem];exact d9,by simp[go_sem];exact d10,zS1 ad,by rw[sl];simpa[go_sem] using ae,by rw[sh,za];simpa[go_sem] using a4,bl,a7,af,by simpa[go_sem] using a2⟩
    .have a5:wtR rw j=1:=by
      have:rw=[]:=by rw[<-bj,zH,List.getElem?_eq_none zOm];rfl
      rw[wtR,this];rfl
     have sl:selW (fun x=>decide (1<x)) rw (U.take (j+1)) 0=selW (fun x=>decide (1<x)) rw (U.take j) 0:=by simpa[a5] using aq
     have sh:selW (fun x=>decide (0<x)) rw (U.take (j+1)) 0=selW (fun x=>decide (0<x)) rw (U.take j) 0++[U[j]]:=by simpa[a5] using au
     simp[go_sem,f2,f8,f9,f12,c9,J,aa];refine cJ zKr ?_;simp[go_sem,f9,f11,f12,c9,c11,J];refine qA.ownB (e:=3) (sz:=1) (bt:=8) (zv:=aI 0) (xs:=(selW (fun x=>decide (0<x)) rw (U.take j) 0).map rI) (ys:=[rI U[j]]) zSi zSi zSi rfl rfl zOm zOm oh (by simp[qF]) (yu _) (yu [_]) (by have:=(wL (fun x=>decide (0<x)) rw (U.take j) 0).length_le;have:=List.length_take_le j U;simp;omega) ?_;intro P mh T I a1 ax;have d9:mh[R]?=some (.arr [aI o,lI U]):=by rw[I R (qm.1 c9).1 (fun h=>zW1 (bh R h))];exact c9
     have d10:mh[R+1]?=some (.arr [aI o,C]):=by rw[I (R+1) (qm.1 c10).1 (fun h=>zW1 (bh _ h))];exact c10
     have d11:mh[R+2]?=some (.arr [aI o,a0]):=by rw[I (R+2) (qm.1 c11).1 (fun h=>zW1 (bh _ h))];exact c11
     have ad:=(qm.1 d11).1;have aj:=(qm.1 c11).1;have a6:Own mh 1 C ((selW (fun x=>decide (1<x)) rw (U.take j) 0).map rI):=Own.same ol fun b hb=>I b (Own.lt ol hb) (nb b hb)
     have ae:=Own.set a6 (i:=R+2) (.arr [aI o,P]) (fun h=>zW1 (bl _ h));have a4:=Own.set T (i:=R+2) (.arr [aI o,P]) (fun h=>zW1 (a1 _ h));have a7:∀ b,qp P=some b->R+3<=b:=fun b h=>zW1 (a1 b h)
     have af:∀ b,qp C=some b->qp P≠some b:=fun b h h2=>zW2 (a1 b h2) (Own.lt ol h)
     have a2:∀ i,i<R->(mh.set (R+2) (.arr [aI o,P]))[i]?=st.mu[i]?:=fun i hi=>by
      rw[zGl,I i zOm (fun h=>zW1 (bh i h))];exact low i hi
     simp[go_sem,f11,f12,d11,J,w2,Own.one T,Own.cells T]
     try refine⟨J,aK ?_⟩
     try refine aK ?_
     refine⟨zS1 f2,zS1 f7,zS1 f8,zS1 f9,zS1 f10,zS1 f11,zSi,C,P,by simp[go_sem];exact d9,by simp[go_sem];exact d10,zS1 ad,by rw[sl];simpa[go_sem] using ae,by rw[sh,za];simpa[go_sem] using a4,bl,a7,af,by simpa[go_sem] using a2⟩
   .skip
    obtain rfl:U.length=j:=zOm;rw[qT]at ol oh;have cw:R+2<st2.mu.length:=(qm.1 c11).1;have bu:(cutM (fun j=>decide (R<=j)) st2.mu 0)[R+1]?=some (.arr [aI o,C]):=by rw[jG,c10];simp
    have bv:(cutM (fun j=>decide (R<=j)) st2.mu 0)[R+2]?=some (.arr [aI o,a0]):=by rw[jG,c11];simp
    have b7:∀ l:List Int,∀ r,r∈l.map rI->∀ c,c∈r->HF c:=fun l r hr c hc=>by
     obtain⟨x,_,rfl⟩:=qo.1 hr;simp at hc;subst hc;exact HF.sc _
    have bw:Rd (cutM (fun j=>decide (R<=j)) st2.mu 0) C (lI (selW (fun x=>decide (1<x)) rw U 0)):=Own.rd (Yz ol fun b hb=>zW1 (bl b hb)) (yu _).ok (b7 _);have ca:Rd (cutM (fun j=>decide (R<=j)) st2.mu 0) a0 (lI (selW (fun x=>decide (0<x)) rw U 0)):=Own.rd (Yz oh fun b hb=>zW1 (bh b hb)) (yu _).ok (b7 _);simp[go_sem,f9,f12,c9];refine cV (d:=10) (d':=11) (L:=R) (x := .ip [aI o,lI (selW (fun x=>decide (1<x)) rw U 0)]) (x' := .ip [aI o,lI (selW (fun x=>decide (0<x)) rw U 0)]) zDe ?_ ?_ ?_
    .simp [go_sem,f10]
     refine .ptr (R+1) 0 [aI o,C] _ bu zSp fun k u v hu hv=>?_
     match k with
     | 0=>simp at hu hv;subst hu;subst hv;exact .zsc _
     | 1=>simp at hu hv;subst hu;subst hv;exact bw
     |k+2=>simp at hv
    .simp [go_sem,f11]
     refine .ptr (R+2) 0 [aI o,a0] _ bv zSp fun k u v hu hv=>?_
     match k with
     | 0=>simp at hu hv;subst hu;subst hv;exact .zsc _
     | 1=>simp at hu hv;subst hu;subst hv;exact ca
     |k+2=>simp at hv
    have a8:(cutM (fun j=>!decide (R<=j)) st2.mu 0)[B]?=some (.arr FL):=by
     rw[jG,low B bi,hc];simp[show ¬R<=B by omega]
    have b8:B<(cutM (fun j=>!decide (R<=j)) st2.mu 0).length:=(qm.1 a8).1;generalize b9:cutM (fun j=>!decide (R<=j)) st2.mu 0=CM at *
    simp[go_sem,f7,f8,h,a9,a8,b9];refine tS (.ptr B (k*4)) (if_pos zOm) ?_;have a3:=b5 (cBd BK) rfl zOm;rw[ai,je _ _ _ zSo]at a3;have cb:cBd BK=[aI o,lI (selW (fun x=>decide (1<x)) rw U 0),aI o,lI (selW (fun x=>decide (0<x)) rw U 0)]:=by rw[be];rfl
    rw[cb]at a3;simp only[zq,yH,vD,zD,List.length_nil]at a3;have bb:(jV ts sc raw (k+1)).length=W.length:=by rw[<-ai,List.length_set]
    simp[go_sem,a8,b9];refine tS (CM.set B (.arr (jV ts sc raw (k+1)).flatten)) (by rw[if_pos zOm,a3]) ?_;simp[go_sem,f2,f7,f8,w1,a9,h];refine aK ⟨zS1 f2,zS1 f7,zSi,.inr ⟨B,?_,?_⟩⟩
    .simp [go_sem,f7,h,bb]
    .simp [go_sem]
     rw[qL b8]
 .have cc:k=ts.sA.length:=by omega
  subst cc;have cd:jV ts sc raw ts.sA.length=(yj ts sc raw).map cBd:=by
   rw[jV,<-an,qT,an,yA,List.map_nil,zN]
  rw[cd]at ho;simp[go_sem,e7,e8];refine tS (aI (yj ts sc raw).length) (by rcases ho with h|⟨b,h,_⟩<;>rw[h]<;>simp) ?_;simp[go_sem,an,e7,Own.one ho,Own.cells ho];refine Own.rd ho (fun r hr=>?_) fun r hr=>?_
  .obtain ⟨x,_,rfl⟩:=qo.1 hr;rfl
  .obtain ⟨x,_,rfl⟩:=qo.1 hr;exact Kj x
end I2
end Go.Proofs.YtahmfpfdgiemoaaGreatDoor
