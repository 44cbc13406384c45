/-
  Own library, part 7: an abstract reading of values and a calculus over it; contracts of functions; plain lemmas.
-/
import Derived.Test.YtkglmpmlfjogkaaGreatDoorMf
set_option linter.unusedVariables false
set_option linter.unusedSimpArgs false
set_option maxRecDepth 100000
open Go.Proofs.Tryz renaming prog->qc
open List renaming getElem?_eq_some_iff->qk,mem_map->qq,getElem?_append_left->qr,range->qu,getElem?_eq_getElem->qv,getElem_mem->qw,mem_cons->qz,all_eq_true->qC,replicate->qW,mem_singleton->qY,getElem?_append_right->q6,getElem?_set_self->za,drop_eq_getElem_cons->zi,getElem?_map->zj,not_mem_nil->zk,append_nil->zl,length_append->zr,map_append->zt,take_length->zw,append_assoc->zx,mem_cons_of_mem->zD,getD_eq_getElem?_getD->zE,drop_length->zN,getElem?_eq_none->zQ,mem_cons_self->zW,take_of_length_le->zX,length_map->yO,nil_append->yZ,ext_getElem?->jr,take_succ_eq_append_getElem->Xi,getElem_append_left->Xj
open Go.IntKind renaming i64->ql
open Option.some renaming injEq->qp
open Nat renaming le_refl->qs,le_trans->zz
open Bool renaming and_eq_true->qA
open Int renaming mul_le_mul->jt
namespace Go.Proofs.YtkglmpmlfjogkaaGreatDoor
open Go Go.Ev Go.Proofs Tryz
namespace QI
open YF Y9 Y10 Y1 Y2 P1 P2
theorem qhO{c:Ck}{nm:ByteArray}{k:Nat}(hk:k<c.calls)(hp:k<c.ts.preds.length)(h:c.ts.preds[k].name=nm)(hb:∀(j:Nat) (hj:j<c.ts.preds.length),j<k->c.ts.preds[j].name≠nm):zA c nm=some k:=by
 unfold zA;rw[List.findIdx?_eq_some_iff_getElem];refine⟨by simp;omega,by simp[h],fun j hj=>?_⟩;simp[hb j (by omega) hj]
theorem qhP{c:Ck}{nm:ByteArray}(hb:∀(j:Nat) (hj:j<c.ts.preds.length),j<c.calls->c.ts.preds[j].name≠nm):zA c nm=none:=by
 unfold zA;rw[List.findIdx?_eq_none_iff];intro p hp;obtain⟨j,hj,e⟩:=List.mem_iff_getElem.1 hp;simp at hj;rw[List.getElem_take]at e;rw[<-e];exact decide_eq_false (hb j (by omega) (by omega))
abbrev idxO:Option Nat->Int
 |some i=>i
 |none => -1
theorem Vy(c:Ck)(hc:okCk c)(nm:ByteArray):qj qc 158 [eTS c.ts,aI c.calls,aS nm] (aI (idxO (zA c nm))):=by
 refine qSQ call158 func158 rfl {} ?_;have hcl:=hc.calls;have hnp:=hc.ts.np;simp[go_sem];refine qn.upK c.calls (fun k st=>st.tm 1=aI c.calls/\st.tm 2=aS nm/\st.tm 3 = .ip (cTS c.ts)/\st.tm 7=aI k/\∀(j:Nat) (hj:j<c.ts.preds.length),j<k->c.ts.preds[j].name≠nm) ?_ ?_
 .exact ⟨by simp[go_sem],by simp[go_sem],by simp[go_sem],by simp[go_sem],fun j hj h=>by omega⟩
 rintro k st hk ⟨e1,e2,e3,e7,hI⟩;by_cases hlt:k<c.calls
 .have w1:ql.wrap ((k:Int)+1)=(k:Int)+1:=qi (by omega) (by omega)
  have hkp:k<c.ts.preds.length:=by omega
  by_cases hq:c.ts.preds[k].name=nm
  .rw [qhO hlt hkp hq hI]
   simp[go_sem,e1,e2,e3,e7,hlt,hkp,hq];exact .hf _ (HF.sc _)
  .simp [go_sem,e1,e2,e3,e7,hlt,hkp,jL hq,w1]
   refine Keep.mk' ⟨by simp[go_sem,e1],by simp[go_sem,e2],by simp[go_sem,e3],by simp[go_sem],fun j hj hjk=>?_⟩;by_cases he:j=k
   .subst he;exact hq
   .exact hI j hj (by omega)
 .have hke:k=c.calls:=by omega
  subst hke;rw[qhP hI];simp[go_sem,e1,e2,e3,e7];exact .hf _ (HF.sc _)
theorem vy(op:Int):qj qc 225 [aI op] (aB (z7 op)):=by
 refine qSQ call225 func225 rfl {} ?_;by_cases h5:op=5
 .rw [show z7 op=true by simp[z7,h5]]
  simp[go_sem,h5];exact .hf _ (HF.sc _)
 by_cases h48:48<=op
 .by_cases h51:op<=51
  .rw [show z7 op=true by unfold z7;rcases (show op=48\/op=49\/op=50\/op=51 by omega) with h|h|h|h<;>simp[h]]
   simp[go_sem,h5,h48,h51];exact .hf _ (HF.sc _)
  .rw [show z7 op=false by simp[z7,h5,show ¬op=48 by omega,show ¬op=49 by omega,show ¬op=50 by omega,show ¬op=51 by omega]]
   simp[go_sem,h5,h48,h51];exact .hf _ (HF.sc _)
 .rw [show z7 op=false by simp[z7,h5,show ¬op=48 by omega,show ¬op=49 by omega,show ¬op=50 by omega,show ¬op=51 by omega]]
  simp[go_sem,h5,h48];exact .hf _ (HF.sc _)
abbrev rBo(b:Bool):List AV:=[aB b]
abbrev lBo(l:List Bool):AV := .lst false (l.map rBo)
theorem Yz(l:List Bool):HF (lBo l):=HF.lst fun r hr c hc=>by
 obtain⟨b,_,rfl⟩:=qq.1 hr;rw[qY]at hc;subst hc;exact HF.sc _
def tpB(c:Ck)(nm:ByteArray):Bool:=match zA c nm with|some p=>c.timed.getD p false|none=>false
theorem vW(c:Ck)(hc:okCk c)(nm:ByteArray):qj qc 226 [eTS c.ts,lBo c.timed,aI c.calls,aS nm] (aB (tpB c nm)):=by
 generalize hr:tpB c nm=r;unfold tpB at hr;refine qSQ call226 func226 rfl {} ?_;simp[go_sem];refine qe.pure (Vy c hc nm) (.cons (.hf (zh _)) (.cons (.hf (HF.sc _)) (.cons (.hf (HF.sc _)) .nil))) ?_;cases hcl:zA c nm with
 |none =>
  rw[hcl]at hr;subst hr;simp[go_sem,idxO];exact .hf _ (HF.sc _)
 |some p =>
  rw[hcl]at hr;by_cases hp:p<c.timed.length
  .have hr2:r=c.timed[p]:=by rw[<-hr];simp[List.getD,hp]
   subst hr2;simp[go_sem,idxO,hp];exact .hf _ (HF.sc _)
  .have hr2:r=false:=by rw[<-hr];simp[List.getD,hp]
   subst hr2;simp[go_sem,idxO,hp];exact .hf _ (HF.sc _)
theorem gO(c:Ck)(hc:okCk c)(hl:c.timed.length=c.calls):∀(m:Nat) (n:Nd),szN n<=m->Small n->qj qc 231 [eTS c.ts,lBo c.timed,eNd n] (aB (yn c n))
 | 0,n,hm,_=>by obtain⟨op,nm,i,ks,p⟩:=n;simp[szN]at hm
 |m+1,n,hm,hs=>by
  have ih:∀ k,k∈n.kids->qj qc 231 [eTS c.ts,lBo c.timed,eNd k] (aB (yn c k)):=fun k hk =>
   gO c hc hl m k (by have:=yj hk;omega) (hs.kid hk)
  have hlen:=hs.len;have hti:yy c n.op n.name=(z7 n.op||(decide (n.op=47)&&tpB c n.name)):=rfl;rw[kf,hti];generalize hR:n.kids.any (yn c)=R;have ct:=vy n.op;have cp:=vW c hc n.name;generalize z7 n.op=T at *
  generalize tpB c n.name=B at *
  refine qSQ call231 func231 rfl {} ?_;simp[go_sem];refine qe.pure ct (.cons (.hf (HF.sc _)) .nil) ?_;cases T with
  |true =>
   simp[go_sem];exact .hf _ (HF.sc _)
  |false =>
  rw[Bool.false_or];by_cases h47:n.op=47
  .rw [decide_eq_true h47,Bool.true_and]
   simp[go_sem,h47,hl];refine qe.pure cp (.cons (.hf (zh _)) (.cons (.hf (Yz _)) (.cons (.hf (HF.sc _)) (.cons (.hf (HF.sc _)) .nil)))) ?_;cases B with
   |true =>
    simp[go_sem];exact .hf _ (HF.sc _)
   |false =>
   rw[Bool.false_or];simp[go_sem];refine qn.upK n.kids.length (fun k st=>st.tm 1=lBo c.timed/\st.tm 3 = .ip (cTS c.ts)/\st.tm 5 = .ip (cNd n)/\st.tm 7=aI k/\(n.kids.drop k).any (yn c)=R) ?_ ?_
   .exact ⟨by simp[go_sem],by simp[go_sem],by simp[go_sem],by simp[go_sem],by simpa using hR⟩
   rintro k st hk ⟨e1,e3,e5,e7,hI⟩;by_cases hkl:k=n.kids.length
   .subst hkl
    rw[zN]at hI;have hI:R=false:=by rw[<-hI];rfl
    subst hI;simp[go_sem,e1,e3,e5,e7];exact .hf _ (HF.sc _)
   have hlt:k<n.kids.length:=by omega
   have w1:ql.wrap ((k:Int)+1)=(k:Int)+1:=qi (by omega) (by omega);rw[zi hlt,List.any_cons]at hI;have hi:=ih n.kids[k] (qw hlt);simp[go_sem,e1,e3,e5,e7,hlt,qm];refine qg.intro (by kernel_rfl) ?_;simp[go_sem,e1,e3,e5,e7,hlt,qm];refine qe.pure hi (.cons (.hf (zh _)) (.cons (.hf (Yz _)) (.cons (.hf (qH _)) .nil))) ?_;cases hq:yn c n.kids[k] with
   |true =>
    rw[hq,Bool.true_or]at hI;subst hI;simp[go_sem,e1,e3,e5,e7,hlt];exact .hf _ (HF.sc _)
   |false =>
    rw[hq,Bool.false_or]at hI;simp[go_sem,e1,e3,e5,e7,hlt,w1];exact Keep.mk' ⟨by simp[go_sem,e1],by simp[go_sem,e3],by simp[go_sem,e5],by simp[go_sem],hI⟩
  .rw [decide_eq_false h47,Bool.false_and,Bool.false_or]
   simp[go_sem,h47];refine qn.upK n.kids.length (fun k st=>st.tm 1=lBo c.timed/\st.tm 3 = .ip (cTS c.ts)/\st.tm 5 = .ip (cNd n)/\st.tm 7=aI k/\(n.kids.drop k).any (yn c)=R) ?_ ?_
   .exact ⟨by simp[go_sem],by simp[go_sem],by simp[go_sem],by simp[go_sem],by simpa using hR⟩
   rintro k st hk ⟨e1,e3,e5,e7,hI⟩;by_cases hkl:k=n.kids.length
   .subst hkl
    rw[zN]at hI;have hI:R=false:=by rw[<-hI];rfl
    subst hI;simp[go_sem,e1,e3,e5,e7];exact .hf _ (HF.sc _)
   have hlt:k<n.kids.length:=by omega
   have w1:ql.wrap ((k:Int)+1)=(k:Int)+1:=qi (by omega) (by omega);rw[zi hlt,List.any_cons]at hI;have hi:=ih n.kids[k] (qw hlt);simp[go_sem,e1,e3,e5,e7,hlt,qm];refine qg.intro (by kernel_rfl) ?_;simp[go_sem,e1,e3,e5,e7,hlt,qm];refine qe.pure hi (.cons (.hf (zh _)) (.cons (.hf (Yz _)) (.cons (.hf (qH _)) .nil))) ?_;cases hq:yn c n.kids[k] with
   |true =>
    rw[hq,Bool.true_or]at hI;subst hI;simp[go_sem,e1,e3,e5,e7,hlt];exact .hf _ (HF.sc _)
   |false =>
    rw[hq,Bool.false_or]at hI;simp[go_sem,e1,e3,e5,e7,hlt,w1];exact Keep.mk' ⟨by simp[go_sem,e1],by simp[go_sem,e3],by simp[go_sem,e5],by simp[go_sem],hI⟩
theorem WW(l:List Bool):zm 1 (l.map rBo):=fun r hr=>by
 obtain⟨b,_,rfl⟩:=qq.1 hr;exact⟨rfl,rfl⟩
theorem appBo{mu:Mu}{lo:Nat}{s:AV}{xs:List Bool}{b:Bool}{K:AV->Mu->Prop}(ho:OwnF lo mu 1 s (xs.map rBo))(hl:xs.length<=100000)(kk:∀ av mu',OwnF lo mu' 1 av ((xs++[b]).map rBo)->(∀ i,i<lo->mu'[i]?=mu[i]?)->K av mu') :
  qF qc mu #[97,97] s (.lst true [[aB b]]) K:=by
 refine qF.ownF (lo:=lo) (e:=4) (sz:=1) (bt:=1) (zv:=aB false) (xs:=xs.map rBo) (ys:=[rBo b]) (by simp[go_sem]) (by simp[go_sem]) (by simp[go_sem]) rfl rfl (by omega) (by omega) ho (by simp[qI]) (WW xs) (WW [b]) (by simp;omega) ?_;intro av mu' h h2;exact kk av mu' (by rw[zt];exact h) h2
theorem rdBo{lo:Nat}{mu:Mu}{av:AV}{l:List Bool}(ho:OwnF lo mu 1 av (l.map rBo)):Rd mu av (lBo l):=
 Own.rd (sz:=1) ho.1 (WW l).ok fun r hr c hc=>by
  obtain⟨b,_,rfl⟩:=qq.1 hr;rw[qY]at hc;subst hc;exact HF.sc _
theorem qhQ(ts:TS)(h:okTS ts)(hp:∀ p,p∈ts.preds->WfN p.body):qj qc 197 [eTS ts] (lBo (tmsL ts ts.preds.length)):=by
 refine qSQ call197 func197 rfl {} ?_;have hnp:=h.np;simp[go_sem];refine qn.upK ts.preds.length (fun k st=>st.tm 1 = .ip (cTS ts)/\st.tm 4=aI k/\OwnF 0 st.mu 1 (st.tm 3) ((tmsL ts k).map rBo)) ?_ ?_
 .exact ⟨by simp[go_sem],by simp[go_sem],by simp[go_sem,tmsL];exact OwnF.nil (Nat.zero_le _)⟩
 rintro k st hk ⟨e1,e4,ho⟩;by_cases hlt:k<ts.preds.length
 .have w1:ql.wrap ((k:Int)+1)=(k:Int)+1:=qi (by omega) (by omega)
  generalize h3:st.tm 3=av at *
  have hrd:=rdBo ho;have ht:=gO (mkCk ts k) (Zo h (by omega)) (Qi ts k (by omega)) (szN ts.preds[k].body) ts.preds[k].body (qs _) (hp _ (qw hlt)).small;have hlen:=Qi ts k (by omega);have hnext:tmsL ts (k+1)=tmsL ts k++[yn (mkCk ts k) ts.preds[k].body]:=by
   show tmsL ts k++(match ts.preds[k]? with|some p=>[yn ⟨ts,k,tmsL ts k⟩ p.body] | none=>[])=_;rw[qv hlt];rfl
  simp[go_sem,e1,e4,h3,hlt,vA];refine qg.intro (by kernel_rfl) ?_;simp[go_sem,e1,e4,h3,hlt,vA];refine qe.lend (args':=[eTS ts,lBo (tmsL ts k),eNd ts.preds[k].body]) ht ⟨.hf _ (zh ts),hrd,.hf _ (qH _),trivial⟩ (FL.sc _) ?_;simp[go_sem,e1,e4,h3,hlt,vA];refine appBo ho (by omega) fun av' m' ho' _=>?_
  simp[go_sem,e1,e4,h3,hlt,w1];exact Keep.mk' ⟨by simp[go_sem,e1],by simp[go_sem],by rw[hnext];simpa[go_sem] using ho'⟩
 .have hke:k=ts.preds.length:=by omega
  subst hke;generalize h3:st.tm 3=av at *
  simp[go_sem,e1,e4,h3];exact rdBo ho
end QI
namespace QJ
open YF Y10 Y1 P1 QD QE QF
abbrev Vr:=ByteArray×RS
abbrev cVr(v:Vr):List AV:=aS v.1 :: cRS v.2
abbrev lVr(l:List Vr):AV := .lst false (l.map cVr)
theorem gP(v:Vr):∀ c,c∈cVr v->HF c:=fun c hc=>by
 rcases qz.1 hc with rfl|hc
 .exact HF.sc _
 .exact ((setC v.2).sc c hc).2
theorem qhR(l:List Vr):HF (lVr l):=HF.lst fun r hr c hc=>by
 obtain⟨v,_,rfl⟩:=qq.1 hr;exact gP v c hc
theorem WX(v:Vr):∀ c,c∈cVr v->c.one=true:=fun c hc=>by
 rcases qz.1 hc with rfl|hc
 .rfl
 .exact ((setC v.2).sc c hc).1
theorem WY(l:List Vr):zm 66 (l.map cVr):=fun r hr=>by
 obtain⟨v,_,rfl⟩:=qq.1 hr;exact⟨by simp[hB],qC.2 (WX v)⟩
theorem WZ{mu:Mu}{lo:Nat}{s x:AV}{xs ys:List Vr}{K:AV->Mu->Prop}(ho:OwnF lo mu 66 s (xs.map cVr))(hx:qI mu x=some (ys.map cVr))(hl:xs.length+ys.length<=100000)(kk:∀ av mu',OwnF lo mu' 66 av ((xs++ys).map cVr)->(∀ i,i<lo->mu'[i]?=mu[i]?)->K av mu') :
  qF qc mu #[235,235] s x K:=by
 refine qF.ownF (lo:=lo) (e:=279) (sz:=66) (bt:=88) (zv := .agg (aS ⟨#[]⟩ :: aI 0 :: zs)) (xs:=xs.map cVr) (ys:=ys.map cVr) (by simp[go_sem]) (by simp[go_sem]) (by simp[go_sem];rfl) rfl rfl (by omega) (by omega) ho hx (WY xs) (WY ys) (by simp;omega) ?_;intro av mu' h h2;exact kk av mu' (by rw[zt];exact h) h2
theorem rdVr{lo:Nat}{mu:Mu}{av:AV}{l:List Vr}(ho:OwnF lo mu 66 av (l.map cVr)):Rd mu av (lVr l):=
 Own.rd (sz:=66) ho.1 (WY l).ok fun r hr c hc=>by
  obtain⟨v,_,rfl⟩:=qq.1 hr;exact gP v c hc
theorem pcV(n:ByteArray)(q:RS):putCells (aS n :: aI 0 :: zs) 1 (aI q.1 :: hB q.2)=cVr (n,q):=by
 have hzl:zs.length=64:=rfl;rw[y5 _ _ _ (by simp[qh,hzl])];simp[qh,hzl,List.drop_of_length_le]
def envV(env:List (ByteArray×Int)):List Vr:=env.map fun p=>(p.1,qo (kOf [p.2]))
theorem envU(env:List (ByteArray×Int))(hl:env.length<=1000)(hr:∀ p,p∈env->0<=p.2/\p.2<4):qj qc 198 [lPm env] (lVr (envV env)):=by
 refine qSQ call198 func198 rfl {} ?_;simp[go_sem];refine qn.upK env.length (fun k st=>st.tm 0=lPm env/\st.tm 4=aI k/\OwnF 0 st.mu 66 (st.tm 3) ((envV (env.take k)).map cVr)) ?_ ?_
 .exact ⟨by simp[go_sem],by simp[go_sem],by simp[go_sem,envV];exact OwnF.nil (Nat.zero_le _)⟩
 rintro k st hk ⟨e0,e4,ho⟩;by_cases hlt:k<env.length
 .have w1:ql.wrap ((k:Int)+1)=(k:Int)+1:=qi (by omega) (by omega)
  generalize h3:st.tm 3=av at *
  have hp:=hr _ (qw hlt);have c1:qj qc 205 [lI [env[k].2]] (eRS (qo (kOf [env[k].2]))):=by
   have:=oneU [env[k].2] (by simp);rw[WN]at this;rw[<-QF.WU (l:=[env[k].2]) (by simp) (fun x hx=>by rw[qY]at hx;subst hx;exact hp)];exact this
  have hnext:envV (env.take (k+1))=envV (env.take k)++[(env[k].1,qo (kOf [env[k].2]))]:=by
   unfold envV;rw[Xi hlt,zt];rfl
  have hlen:(envV (env.take k)).length=k:=by simp[envV];omega
  generalize qo (kOf [env[k].2])=q at *
  simp[go_sem,e0,e4,h3,hlt];refine qg.intro (by kernel_rfl) ?_;simp[go_sem,e0,e4,h3,hlt];refine qe.pure c1 (.cons (QD.wk1 _) .nil) ?_;simp[go_sem,e0,e4,h3,hlt];rw[if_pos ⟨qh _,qD _⟩];generalize hC:putCells _ 1 _=C;have hC2:C=cVr (env[k].1,q):=by rw[<-hC];exact pcV _ _
  subst hC2;clear hC;have hcl:(cVr (env[k].1,q)).length=66:=by simp[qh]
  have hco:=WX (env[k].1,q);generalize hV:cVr (env[k].1,q)=V at *
  simp[go_sem,e0,e4,h3,hlt,hcl];rw[if_pos hco];simp[go_sem,e0,e4,h3,hlt,hcl];refine WZ (ys:=[(env[k].1,q)]) ho (by simp[qI,hV]) (by simp;omega) fun av' m' ho' _=>?_
  simp[go_sem,e0,e4,h3,hlt,w1];exact Keep.mk' ⟨by simp[go_sem,e0],by simp[go_sem],by rw[hnext];simpa[go_sem] using ho'⟩
 .have hke:k=env.length:=by omega
  subst hke;rw[zw]at ho;generalize h3:st.tm 3=av at *
  simp[go_sem,e0,e4,h3];exact rdVr ho
end QJ
namespace QK
open Y9 Y2 P1 QD QE QF
def fin(c:List AV)(l:List Kd):List AV:=match l.getLast? with|some k=>cRS (qo k)|none=>c
theorem YI(c:List AV)(l m:List Kd):fin c (l++m)=fin (fin c l) m:=by
 unfold fin;rw[List.getLast?_append];cases m.getLast?<;>rfl
theorem Vz(c:List AV)(k:Kd):fin c [k]=cRS (qo k):=rfl
theorem oneK{l:List Int}(h:1<=l.length/\l.length<=3)(hx:∀ x,x∈l->0<=x/\x<4):oneC l=cRS (qo (kOf l)):=by
 rw[WN];exact AV.agg.inj (QF.WU h hx)
theorem gQ(nm:ByteArray):∀(l:List Fld) (c:List AV) (k:Nat),(∀ f,f∈l->(1<=f.sorts.length/\f.sorts.length<=3)/\∀ x,x∈f.sorts->0<=x/\x<4)->nmF nm l (c,k)=(fin c (yw l nm),k+(yw l nm).length)
 | [],c,k,_=>rfl
 |f :: l,c,k,h=>by
  have hf:=h f (zW ..);have ih:=fun c k=>gQ nm l c k fun g hg=>h g (zD _ hg)
  by_cases hq:f.name=nm
  .have e:yw (f :: l) nm=[kOf f.sorts]++yw l nm:=by simp[yw,hq]
   rw[e,YI,Vz];simp only[nmF,stF,if_pos hq];rw[ih,oneK hf.1 hf.2];simp;omega
  .have e:yw (f :: l) nm=yw l nm:=by simp[yw,hq]
   rw[e];simp only[nmF,stF,if_neg hq];exact ih c k
theorem st_eq(nm:ByteArray)(i:Nat)(hi:i<4)(x:ByteArray×Bool)(c:List AV)(k:Nat):st3 nm i x (st2 nm i x (st1 nm i x (c,k)))=(fin c (uj i x nm),k+(uj i x nm).length):=by
 have o1:=oneK (l:=[(i:Int)]) (by simp) (fun y hy=>by simp at hy;subst hy;omega);have o2:=oneK (l:=[(i:Int),(i:Int)]) (by simp) (fun y hy=>by simp at hy;rcases hy with rfl|rfl<;>omega);have a1:∀ c k,st1 nm i x (c,k)=(fin c (if x.1=nm then [kOf [(i:Int)]] else []),k+(if x.1=nm then [kOf [(i:Int)]] else []).length):=fun c k=>by
  unfold st1;split
  .rw [Vz,o1];rfl
  .rfl
 have a2:∀ c k,st2 nm i x (c,k)=(fin c (if x.2=true/\x.1++jc=nm then [kOf [(i:Int)]] else []),k+(if x.2=true/\x.1++jc=nm then [kOf [(i:Int)]] else []).length):=fun c k=>by
  unfold st2;split
  .rw [Vz,o1];rfl
  .rfl
 have a3:∀ c k,st3 nm i x (c,k)=(fin c (if x.2=true/\x.1++vz=nm then [kOf [(i:Int),(i:Int)]] else []),k+(if x.2=true/\x.1++vz=nm then [kOf [(i:Int),(i:Int)]] else []).length):=fun c k=>by
  unfold st3;split
  .rw [Vz,o2];rfl
  .rfl
 unfold uj;rw[a1,a2,a3,YI,YI,zr,zr];simp only[Nat.add_assoc]
theorem gR(nm:ByteArray):∀(l:List (ByteArray×Bool)) (i:Nat) (c:List AV) (k:Nat),i+l.length<=4->nmS nm i l (c,k)=(fin c (yx i l nm),k+(yx i l nm).length)
 | [],i,c,k,_=>rfl
 |x :: l,i,c,k,h=>by
  simp only[List.length_cons]at h;have ih:=fun c k=>gR nm l (i+1) c k (by omega)
  simp only[nmS,yx];rw[st_eq nm i (by omega),ih,YI,zr,Nat.add_assoc]
theorem qhS{ts:TS}(h:okTS ts)(nm:ByteArray):named ts nm=(fin (aI 0 :: zs) (jM ts nm),(jM ts nm).length):=by
 unfold named jM;rw[gQ nm ts.fields _ _ fun f hf=>?_,gR nm ts.sorts _ _ _ (by have:=h.ns;omega),YI,zr,Nat.zero_add];have:=h.fl f hf;have hns:=h.ns;exact⟨by omega,fun x hx=>by have:=this.2.2 x hx;omega⟩
end QK
namespace QL
open YF Y9 Y1 Y2 P1 QD QE QF QI QJ QK
abbrev cVw(c:Ck)(inn:Bool):List AV:=[lSo c.ts.sorts,lFl c.ts.fields,lPd c.ts.preds,lFa c.ts.facts,lBo c.timed,aI c.calls,aB inn]
abbrev eVw(c:Ck)(inn:Bool):AV := .agg (cVw c inn)
def envS(s:Scp):List Vr:=s.reverse.map fun v=>(v.1,qo v.2)
theorem VA(s:Scp):(envS s).length=s.length:=by simp[envS]
theorem gS(env:List (ByteArray×Int)):envV env=envS (y7 env):=by
 have h:∀(l:List (ByteArray×Int)) (a:Scp),l.foldl (fun s p=>(p.1,kOf [p.2]) :: s) a=(l.map fun p=>(p.1,kOf [p.2])).reverse++a:=by
  intro l;induction l with
  |nil=>intro a;rfl
  |cons p l ih=>intro a;rw[List.foldl_cons,ih];simp
 unfold envV envS y7;rw[h,zl,List.reverse_reverse,List.map_map];rfl
theorem qhT(s:Scp)(d:Nat)(h:d<s.length)(h':s.length-1-d<(envS s).length):(envS s)[s.length-1-d]=(s[d].1,qo s[d].2):=by
 have e:s.length-1-(s.length-1-d)=d:=by omega
 simp[envS,List.getElem_reverse,e]
abbrev zR:RS:=(0,fun _=>false)
abbrev eDg(d:Dg):AV := .agg [aI d.1,aI d.2]
def endR(z:RS):Res->AV
 | .error e => .tup [eRS z,eDg e]
 | .ok (some k) => .tup [eRS (qo k),eDg (0,0)]
 | .ok none => .tup [eRS zR,eDg (0,0)]
theorem zM(s:RS)(d:Dg):HF (.tup [eRS s,eDg d]):=HF.tup fun x hx=>by
 rcases qz.1 hx with rfl|hx
 .exact yf s
 .rw [qY]at hx;subst hx
  exact HF.agg fun c hc=>by
   rcases qz.1 hc with rfl|hc
   .exact HF.sc _
   .rw [qY]at hc;subst hc;exact HF.sc _
theorem okNm.ofTS{ts:TS}(h:okTS ts):okNm ts:=⟨h.sl,by have:=h.ns;omega,by have:=h.nf;omega,fun f hf=>by have:=h.fl f hf;omega⟩
theorem U8(c:Ck)(hc:okCk c)(inn:Bool)(s:Scp)(n:Nd)(hs:s.length<=100000):qj qc 227 [eVw c inn,lVr (envS s),eNd n] (endR zR (yU c s n.name n.pos)):=by
 generalize hR:endR zR (yU c s n.name n.pos)=R;unfold yU at hR;refine qSQ call227 func227 rfl {} ?_;have hel:=VA s;have w0:ql.wrap ((s.length:Int)-1)=(s.length:Int)-1:=qi (by omega) (by omega);simp[go_sem,hel,w0];refine qn.upK s.length (fun d st=>st.tm 1=lVr (envS s)/\st.tm 3 = .ip (cVw c inn)/\st.tm 5 = .ip (cNd n)/\st.tm 6 = .ptr 0 0/\st.tm 7 = .ptr 1 0/\st.tm 8=aI ((s.length:Int)-1-d)/\st.mu=[.arr (aI 0 :: hB fun _=>false),.arr [aI 0,aI 0]]/\yT n.name (s.drop d)=yT n.name s) ?_ ?_
 .exact ⟨by simp[go_sem],by simp[go_sem],by simp[go_sem],by simp[go_sem],by simp[go_sem],by simp[go_sem],by simp[go_sem];first|rfl|exact⟨rfl,rfl⟩,rfl⟩
 rintro d st hd ⟨e1,e3,e5,e6,e7,e8,hm,hI⟩;by_cases hlt:d<s.length
 .have hl:s.length-1-d<(envS s).length:=by omega
  have hget:=qhT s d hlt hl;obtain⟨e,he⟩:∃ e:Nat,e=s.length-1-d:=⟨_,rfl⟩;have hei:(s.length:Int)-1-d=(e:Int):=by omega
  rw[hei]at e8;rw[<-he]at hl;have hget:(envS s)[e]=(s[d].1,qo s[d].2):=by simp only[he];exact hget
  have w1:ql.wrap ((e:Int)-1)=(s.length:Int)-1-((d+1:Nat):Int):=by rw[qi (by omega) (by omega)];omega
  rw[zi hlt]at hI;have h0:(0:Int)<=(e:Int):=by omega
  by_cases hq:s[d].1=n.name
  .have hf:yT n.name s=s[d] :: s.drop (d+1):=by rw[<-hI,yT,if_pos hq]
   rw[hf]at hR;simp only[endR]at hR;have hR:R = .tup [eRS (qo s[d].2),eDg (0,0)]:=hR.symm;subst hR;simp[go_sem,e1,e3,e5,e6,e7,e8,hm,hl,hget];refine qg.intro (by kernel_rfl) ?_;simp[go_sem,e1,e3,e5,e6,e7,e8,hm,hl,hget,hq];generalize qo s[d].2=q at *
   simp[go_sem,e1,e3,e5,e6,e7,e8,hm,hl,hget,qh,tk,pc];rw[if_pos (qD _)];simp[go_sem,e1,e3,e5,e6,e7,e8,hm,qh,tk,pc];exact .hf _ (zM q (0,0))
  .rw [yT,if_neg hq]at hI
   simp[go_sem,e1,e3,e5,e6,e7,e8,hm,hl,hget];refine qg.intro (by kernel_rfl) ?_;simp[go_sem,e1,e3,e5,e6,e7,e8,hm,hl,hget,jL hq,w1,qh];exact⟨by omega,Keep.mk' ⟨by simp[go_sem,e1],by simp[go_sem,e3],by simp[go_sem,e5],by simp[go_sem,e6],by simp[go_sem,e7],by simp[go_sem],by simp[go_sem],hI⟩⟩
 .have hde:d=s.length:=by omega
  subst hde;have e8:st.tm 8=aI (-1):=by rw[e8];congr 2;omega
  rw[zN]at hI;rw[<-hI]at hR;simp only[yT]at hR;have hN:=qg5 c.ts (okNm.ofTS hc.ts) n.name;have hNs:=qg4 c.ts n.name;rw[qhS hc.ts]at hN hNs;simp[go_sem,e1,e3,e5,e6,e7,e8,hm];refine qe.pure hN (.cons (.hf (zh _)) (.cons (.hf (HF.sc _)) .nil)) ?_;have hF:SetC (fin (aI 0 :: zs) (jM c.ts n.name)):=hNs;generalize hms:jM c.ts n.name=ms at *
  match ms,hms with
  | [],_ =>
   simp only[endR]at hR;subst hR;generalize fin (aI 0 :: zs) []=C at *
   simp[go_sem,e1,e3,e5,e6,e7,e8,hm,hF.len,uQ,qh,tk,pc];rw[if_pos hF.one];simp[go_sem,e1,e3,e5,e6,e7,e8,hm,hF.len,uQ,qh,tk,pc];refine qg.float [] [0,1,2,3] [(4,true),(5,false)] (by kernel_rfl) (by kernel_rfl) (by kernel_rfl) ?_;simp[go_sem,e1,e3,e5,e6,e7,e8,hm,hF.len,uQ,qh,tk,pc];exact⟨rfl,.hf _ (zM zR (_,n.pos))⟩
  | [k],_ =>
   simp only[endR]at hR;subst hR;have e:fin (aI 0 :: zs) [k]=aI (qo k).1 :: hB (qo k).2:=rfl;rw[e]at hF⊢;generalize qo k=q at *
   simp[go_sem,e1,e3,e5,e6,e7,e8,hm,hF.len,uQ,qh,tk,pc];rw[if_pos (qD _)];generalize hP:putCells _ 0 (aI q.1 :: hB q.2)=P;have hP2:P=aI q.1 :: hB q.2:=by rw[<-hP];exact pc (aI 0) _ (fun _=>false) _
   subst hP2;clear hP;simp[go_sem,e1,e3,e5,e6,e7,e8,hm,hF.len,uQ,qh,tk,pc];rw[if_pos (qD _)];simp[go_sem,e1,e3,e5,e6,e7,e8,hm,hF.len,uQ,qh,tk,pc];exact .hf _ (zM q (0,0))
  |k1 :: k2 :: l,_ =>
   simp only[endR]at hR;subst hR;generalize fin (aI 0 :: zs) (k1 :: k2 :: l)=C at *
   simp[go_sem,e1,e3,e5,e6,e7,e8,hm,hF.len,uQ,qh,tk,pc];rw[if_pos hF.one];simp[go_sem,e1,e3,e5,e6,e7,e8,hm,hF.len,uQ,qh,tk,pc];have hl0:¬((l.length:Int)+1+1=0):=by omega
   have hl1:(1:Int)<(l.length:Int)+1+1:=by omega
   simp[go_sem,e1,e3,e5,e6,e7,e8,hm,hl0,hl1];refine qg.float [] [0,1,2,3] [(4,true),(5,false)] (by kernel_rfl) (by kernel_rfl) (by kernel_rfl) ?_;simp[go_sem,e1,e3,e5,e6,e7,e8,hm,hF.len,uQ,qh,tk,pc];exact⟨rfl,.hf _ (zM zR (_,n.pos))⟩
end QL
namespace QM
open Y1
theorem qhU(n:Nd):qj qc 195 [eNd n] (aB (decide (30<=n.op))):=by
 refine qSQ call195 func195 rfl {} ?_;by_cases h:30<=n.op
 .simp [go_sem,h];exact .hf _ (HF.sc _)
 .simp [go_sem,h];exact .hf _ (HF.sc _)
end QM
namespace QN
open Y1 Y2 YF Y9 Y10 P1 P2 QD QE QF QH QL
def setO:Option Kd->RS
 |some k=>qo k
 |none=>zR
abbrev lRS(l:List RS):AV := .lst false (l.map cRS)
theorem qhV(v:RS):∀ c,c∈cRS v->HF c:=fun c hc=>((setC v).sc c hc).2
theorem qhW(v:RS):∀ c,c∈cRS v->c.one=true:=fun c hc=>((setC v).sc c hc).1
theorem W0(l:List RS):zm 65 (l.map cRS):=fun r hr=>by
 obtain⟨v,_,rfl⟩:=qq.1 hr;exact⟨by simp[hB],qC.2 (qhW v)⟩
theorem ZC{mu:Mu}{lo:Nat}{s x:AV}{xs ys:List RS}{K:AV->Mu->Prop}(ho:OwnF lo mu 65 s (xs.map cRS))(hx:qI mu x=some (ys.map cRS))(hl:xs.length+ys.length<=100000)(kk:∀ av mu',OwnF lo mu' 65 av ((xs++ys).map cRS)->(∀ i,i<lo->mu'[i]?=mu[i]?)->K av mu') :
  qF qc mu #[274,274] s x K:=by
 refine qF.ownF (lo:=lo) (e:=203) (sz:=65) (bt:=72) (zv := .agg (aI 0 :: zs)) (xs:=xs.map cRS) (ys:=ys.map cRS) (by simp[go_sem]) (by simp[go_sem]) (by simp[go_sem];rfl) rfl rfl (by omega) (by omega) ho hx (W0 xs) (W0 ys) (by simp;omega) ?_;intro av mu' h h2;exact kk av mu' (by rw[zt];exact h) h2
theorem rdRS{lo:Nat}{mu:Mu}{av:AV}{l:List RS}(ho:OwnF lo mu 65 av (l.map cRS)):Rd mu av (lRS l):=
 Own.rd (sz:=65) ho.1 (W0 l).ok fun r hr c hc=>by
  obtain⟨v,_,rfl⟩:=qq.1 hr;exact qhV v c hc
theorem jf(s:RS)(b:Bool):HF (.tup [eRS s,aB b]):=HF.tup fun x hx=>by
 rcases qz.1 hx with rfl|hx
 .exact yf s
 .rw [qY]at hx;subst hx;exact HF.sc _
def ApE(op:Int):Res->RS->Bool->Prop
 | .ok k,S,b=>b=true/\(kd op=101->∃ q,k=some q/\S=qo q)
 | .error _,S,b=>b=false
theorem wkS1(a:RS):WKs [eRS a] [eRS a] := .cons (.hf (yf _)) .nil
theorem wkS2(a b:RS):WKs [eRS a,eRS b] [eRS a,eRS b] := .cons (.hf (yf _)) (.cons (.hf (yf _)) .nil)
theorem wkTI(ts:TS)(k:Int):WKs [eTS ts,aI k] [eTS ts,aI k] := .cons (.hf (zh _)) (.cons (.hf (HF.sc _)) .nil)
theorem gT(n:Int):eRS (n,fun _=>false)=eRS (qo ⟨n,[]⟩):=we rfl fun j _=>(decide_eq_false fun h=>absurd h.2 zk).symm
def itS:Nat->RS->RS
 | 0,s=>s
 |i+1,s=>uniS (itS i s) (Qo (itS i s) (itS i s))
theorem gU(s:RS):∀ i,(itS i s).1=s.1
 | 0=>rfl
 |i+1=>gU s i
theorem gV(s0:RS)(h:1<=s0.1/\s0.1<=3):qj qc 254 [eRS s0] (eRS (itS 4 s0)):=by
 refine qSQ call254 func254 rfl { mt:=[1] } ?_;simp[go_sem,qh];refine⟨qD _,?_⟩;refine qn.upK 4 (fun i st=>st.tm 1 = .ptr 0 0/\st.tm 2 = .ptr 1 0/\st.tm 3=aI i/\st.mu=[.arr (cRS (itS i s0)),.arr (aI 0 :: hB fun _=>false)]) ?_ ?_
 .exact ⟨by simp[go_sem],by simp[go_sem],by simp[go_sem],by simp[go_sem];exact⟨⟨rfl,rfl⟩,rfl⟩⟩
 rintro i st hi ⟨e1,e2,e3,hm⟩;by_cases hlt:i<4
 .have hlt':(i:Int)<4:=by omega
  have w1:ql.wrap ((i:Int)+1)=(i:Int)+1:=qi (by omega) (by omega);have har:=gU s0 i;have cj:=ul (itS i s0) (itS i s0) (by omega) (by omega);have cu:=jO (itS i s0) (Qo (itS i s0) (itS i s0));have hu:uniS (itS i s0) (Qo (itS i s0) (itS i s0))=itS (i+1) s0:=rfl;rw[hu]at cu;clear hu;generalize hs':itS (i+1) s0=s' at *
  generalize Qo (itS i s0) (itS i s0)=q at *
  generalize itS i s0=s at *
  simp[go_sem,e1,e2,e3,hm,hlt'];refine qg.intro (by kernel_rfl) ?_;simp[go_sem,e1,e2,e3,hm,qh,tk];refine qe.pure cj (.cons (.hf (yf _)) (.cons (.hf (yf _)) .nil)) ?_;simp[go_sem,e1,e2,e3,hm,qh,tk];refine qe.pure cu (.cons (.hf (yf _)) (.cons (.hf (yf _)) .nil)) ?_;simp[go_sem,e1,e2,e3,hm,qh,tk,pc];rw[if_pos (qD _)];simp[go_sem,e1,e2,e3,hm,qh,tk,pc,w1];exact⟨hlt,Keep.mk' ⟨by simp[go_sem,e1],by simp[go_sem,e2],by simp[go_sem],by simp[go_sem,hs']⟩⟩
 .have hie:i=4:=by omega
  subst hie;generalize itS 4 s0=s at *
  simp[go_sem,e1,e2,e3,hm,qh,tk,pc];rw[if_pos (qD _)];simp[go_sem,e1,e2,e3,hm,qh,tk,pc];exact .hf _ (yf s)
def prC(ts:TS)(n:Nd)(l:List RS)(S:RS)(b:Bool):Prop:=qj qc 230 [eTS ts,eNd n,lRS l] (.tup [eRS S,aB b])
theorem ap2(ts:TS)(n:Nd)(L:List RS)(h:n.op=2):prC ts n L (n.n,fun _=>false) true:=by
 unfold prC;refine qSQ call230 func230 rfl {} ?_;simp[go_sem,h,qh,tk,pc];exact .hf _ (jf (n.n,fun _=>false) true)
theorem ap3(ts:TS)(ok:okTS ts)(n:Nd)(L:List RS)(h:n.op=3):prC ts n L (qo (zn ts.sorts.length 1)) true:=by
 unfold prC;refine qSQ call230 func230 rfl {} ?_;have c1:=allU ts ok 1 (by omega);generalize qo (zn ts.sorts.length 1)=q at *
 simp[go_sem,h];refine qe.pure c1 (wkTI ts 1) ?_;simp[go_sem,h,qh,tk,pc];rw[if_pos (qD _)];generalize hP:putCells _ 0 (aI q.1 :: hB q.2)=P;have hP2:P=aI q.1 :: hB q.2:=by rw[<-hP];exact pc (aI 0) _ (fun _=>false) _
 subst hP2;clear hP;simp[go_sem,h,qh,tk,pc];exact .hf _ (jf q _)
theorem ap4(ts:TS)(ok:okTS ts)(n:Nd)(L:List RS)(h:n.op=4):prC ts n L (qo (zn ts.sorts.length 2)) true:=by
 unfold prC;refine qSQ call230 func230 rfl {} ?_;have c1:=allU ts ok 2 (by omega);generalize qo (zn ts.sorts.length 2)=q at *
 simp[go_sem,h];refine qe.pure c1 (wkTI ts 2) ?_;simp[go_sem,h,qh,tk,pc];rw[if_pos (qD _)];generalize hP:putCells _ 0 (aI q.1 :: hB q.2)=P;have hP2:P=aI q.1 :: hB q.2:=by rw[<-hP];exact pc (aI 0) _ (fun _=>false) _
 subst hP2;clear hP;simp[go_sem,h,qh,tk,pc];exact .hf _ (jf q _)
theorem ap5(ts:TS)(n:Nd)(q:RS)(h:n.op=5):prC ts n [q] q true:=by
 unfold prC;refine qSQ call230 func230 rfl {} ?_;simp[go_sem,h,qh,tk,pc];rw[if_pos (qD _)];generalize hP:putCells _ 0 (aI q.1 :: hB q.2)=P;have hP2:P=aI q.1 :: hB q.2:=by rw[<-hP];exact pc (aI 0) _ (fun _=>false) _
 subst hP2;clear hP;simp[go_sem,h,qh,tk,pc];exact .hf _ (jf q _)
theorem ap6(ts:TS)(n:Nd)(q r S:RS)(h:n.op=6)(c:qj qc 249 [eRS q,eRS r] (eRS S)):prC ts n [q,r] S (decide (q.1=r.1)):=by
 unfold prC;refine qSQ call230 func230 rfl {} ?_;simp[go_sem,h,qh,tk,pc];refine qg.floatY [] [10,14] [0,1,2,3,4,5,7,8,9,10,11,12,13,14,15] [(6,false),(16,false),(17,false)] (by kernel_rfl) (by kernel_rfl) (by kernel_rfl) ?_;simp[go_sem,h,qh,tk,pc];refine qe.pure c (wkS2 q r) ?_;simp[go_sem,h,qh,tk,pc];rw[if_pos (qD _)];generalize hP:putCells _ 0 (aI S.1 :: hB S.2)=P;have hP2:P=aI S.1 :: hB S.2:=by rw[<-hP];exact pc (aI 0) _ (fun _=>false) _
 subst hP2;clear hP;simp[go_sem,h,qh,tk,pc];exact .hf _ (jf S _)
theorem ap14(ts:TS)(n:Nd)(q r S:RS)(h:n.op=14)(c:qj qc 249 [eRS q,eRS r] (eRS S)):prC ts n [q,r] S (decide (q.1=r.1)):=by
 unfold prC;refine qSQ call230 func230 rfl {} ?_;simp[go_sem,h,qh,tk,pc];refine qg.floatY [] [10,14] [0,1,2,3,4,5,7,8,9,10,11,12,13,14,15] [(6,false),(16,false),(17,false)] (by kernel_rfl) (by kernel_rfl) (by kernel_rfl) ?_;simp[go_sem,h,qh,tk,pc];refine qe.pure c (wkS2 q r) ?_;simp[go_sem,h,qh,tk,pc];rw[if_pos (qD _)];generalize hP:putCells _ 0 (aI S.1 :: hB S.2)=P;have hP2:P=aI S.1 :: hB S.2:=by rw[<-hP];exact pc (aI 0) _ (fun _=>false) _
 subst hP2;clear hP;simp[go_sem,h,qh,tk,pc];exact .hf _ (jf S _)
theorem ap7(ts:TS)(n:Nd)(q r S:RS)(h:n.op=7)(c:qj qc 250 [eRS q,eRS r] (eRS S)):prC ts n [q,r] S (decide (q.1=r.1)):=by
 unfold prC;refine qSQ call230 func230 rfl {} ?_;simp[go_sem,h,qh,tk,pc];refine qg.floatY [] [10,14] [0,1,2,3,4,5,7,8,9,10,11,12,13,14,15] [(6,false),(16,false),(17,false)] (by kernel_rfl) (by kernel_rfl) (by kernel_rfl) ?_;simp[go_sem,h,qh,tk,pc];refine qe.pure c (wkS2 q r) ?_;simp[go_sem,h,qh,tk,pc];rw[if_pos (qD _)];generalize hP:putCells _ 0 (aI S.1 :: hB S.2)=P;have hP2:P=aI S.1 :: hB S.2:=by rw[<-hP];exact pc (aI 0) _ (fun _=>false) _
 subst hP2;clear hP;simp[go_sem,h,qh,tk,pc];exact .hf _ (jf S _)
theorem ap8(ts:TS)(n:Nd)(q r:RS)(h:n.op=8):prC ts n [q,r] q (decide (q.1=r.1)):=by
 unfold prC;refine qSQ call230 func230 rfl {} ?_;simp[go_sem,h,qh,tk,pc];refine qg.floatY [] [6,10] [0,1,2,3,4,5,6,7,8,9,10,11] [(12,false),(13,false)] (by kernel_rfl) (by kernel_rfl) (by kernel_rfl) ?_;simp[go_sem,h,qh,tk,pc];rw[if_pos (qD _)];generalize hP:putCells _ 0 (aI q.1 :: hB q.2)=P;have hP2:P=aI q.1 :: hB q.2:=by rw[<-hP];exact pc (aI 0) _ (fun _=>false) _
 subst hP2;clear hP;simp[go_sem,h,qh,tk,pc];exact .hf _ (jf q _)
theorem ap32(ts:TS)(n:Nd)(q r:RS)(h:n.op=32):prC ts n [q,r] zR (decide (q.1=r.1)):=by
 unfold prC;refine qSQ call230 func230 rfl {} ?_;simp[go_sem,h,qh,tk,pc];refine qg.floatY [] [4,8] [0,1,2,3,4,5,6,7,8,9] [(10,false),(11,false)] (by kernel_rfl) (by kernel_rfl) (by kernel_rfl) ?_;simp[go_sem,h,qh,tk,pc];exact .hf _ (jf zR _)
theorem ap33(ts:TS)(n:Nd)(q r:RS)(h:n.op=33):prC ts n [q,r] zR (decide (q.1=r.1)):=by
 unfold prC;refine qSQ call230 func230 rfl {} ?_;simp[go_sem,h,qh,tk,pc];refine qg.floatY [] [4,8] [0,1,2,3,4,5,6,7,8,9] [(10,false),(11,false)] (by kernel_rfl) (by kernel_rfl) (by kernel_rfl) ?_;simp[go_sem,h,qh,tk,pc];exact .hf _ (jf zR _)
theorem ap9(ts:TS)(n:Nd)(q r S:RS)(h:n.op=9)(hq:0<=q.1/\q.1<=1000)(hr:0<=r.1/\r.1<=1000)(c:qj qc 251 [eRS q,eRS r] (eRS S)):prC ts n [q,r] S (decide (1<=q.1+r.1-2/\q.1+r.1-2<=3)):=by
 unfold prC;refine qSQ call230 func230 rfl {} ?_;have w1:ql.wrap (q.1+r.1)=q.1+r.1:=qi (by omega) (by omega);have w2:ql.wrap (q.1+r.1-2)=q.1+r.1-2:=qi (by omega) (by omega);simp[go_sem,h,qh,tk,pc];refine qg.intro (by kernel_rfl) ?_;simp[go_sem,h,qh,tk,pc,w1,w2];refine qg.intro (by kernel_rfl) ?_;by_cases h1:1<=q.1+r.1-2
 .simp [go_sem,h,qh,tk,pc,w1,w2,h1]
  refine qe.pure c (wkS2 q r) ?_;simp[go_sem,h,qh,tk,pc,h1];rw[if_pos (qD _)];generalize hP:putCells _ 0 (aI S.1 :: hB S.2)=P;have hP2:P=aI S.1 :: hB S.2:=by rw[<-hP];exact pc (aI 0) _ (fun _=>false) _
  subst hP2;clear hP;simp[go_sem,h,qh,tk,pc,h1];exact .hf _ (jf S _)
 .simp [go_sem,h,qh,tk,pc,w1,w2,h1]
  refine qe.pure c (wkS2 q r) ?_;simp[go_sem,h,qh,tk,pc,h1];rw[if_pos (qD _)];generalize hP:putCells _ 0 (aI S.1 :: hB S.2)=P;have hP2:P=aI S.1 :: hB S.2:=by rw[<-hP];exact pc (aI 0) _ (fun _=>false) _
  subst hP2;clear hP;simp[go_sem,h,qh,tk,pc,h1];exact .hf _ (jf S _)
theorem ap10(ts:TS)(n:Nd)(q r S:RS)(h:n.op=10)(hq:0<=q.1/\q.1<=1000)(hr:0<=r.1/\r.1<=1000)(c:qj qc 252 [eRS q,eRS r] (eRS S)):prC ts n [q,r] S (decide (q.1+r.1<=3)):=by
 unfold prC;refine qSQ call230 func230 rfl {} ?_;have w1:ql.wrap (q.1+r.1)=q.1+r.1:=qi (by omega) (by omega);simp[go_sem,h,qh,tk,pc];refine qg.floatY [] [10,14] [0,1,2,3,4,5,7,8,9,10,11,12,13,14,15,16] [(6,false),(17,false),(18,false)] (by kernel_rfl) (by kernel_rfl) (by kernel_rfl) ?_;simp[go_sem,h,qh,tk,pc,w1];refine qe.pure c (wkS2 q r) ?_;simp[go_sem,h,qh,tk,pc,w1];rw[if_pos (qD _)];generalize hP:putCells _ 0 (aI S.1 :: hB S.2)=P;have hP2:P=aI S.1 :: hB S.2:=by rw[<-hP];exact pc (aI 0) _ (fun _=>false) _
 subst hP2;clear hP;simp[go_sem,h,qh,tk,pc,w1];exact .hf _ (jf S _)
theorem ap11(ts:TS)(n:Nd)(q S:RS)(h:n.op=11)(c:qj qc 253 [eRS q] (eRS S)):prC ts n [q] S (decide (q.1=2)):=by
 unfold prC;refine qSQ call230 func230 rfl {} ?_;simp[go_sem,h,qh,tk,pc];refine qg.floatY [] [7] [0,1,2,4,5,6,7,8] [(3,false),(9,false),(10,false)] (by kernel_rfl) (by kernel_rfl) (by kernel_rfl) ?_;simp[go_sem,h,qh,tk,pc];refine qe.pure c (wkS1 q) ?_;simp[go_sem,h,qh,tk,pc];rw[if_pos (qD _)];generalize hP:putCells _ 0 (aI S.1 :: hB S.2)=P;have hP2:P=aI S.1 :: hB S.2:=by rw[<-hP];exact pc (aI 0) _ (fun _=>false) _
 subst hP2;clear hP;simp[go_sem,h,qh,tk,pc];exact .hf _ (jf S _)
theorem ap12(ts:TS)(n:Nd)(q S:RS)(h:n.op=12)(c:qj qc 254 [eRS q] (eRS S)):prC ts n [q] S (decide (q.1=2)):=by
 unfold prC;refine qSQ call230 func230 rfl {} ?_;simp[go_sem,h,qh,tk,pc];refine qg.floatY [] [7] [0,1,2,4,5,6,7,8] [(3,false),(9,false),(10,false)] (by kernel_rfl) (by kernel_rfl) (by kernel_rfl) ?_;simp[go_sem,h,qh,tk,pc];refine qe.pure c (wkS1 q) ?_;simp[go_sem,h,qh,tk,pc];rw[if_pos (qD _)];generalize hP:putCells _ 0 (aI S.1 :: hB S.2)=P;have hP2:P=aI S.1 :: hB S.2:=by rw[<-hP];exact pc (aI 0) _ (fun _=>false) _
 subst hP2;clear hP;simp[go_sem,h,qh,tk,pc];exact .hf _ (jf S _)
theorem ap13(ts:TS)(ok:okTS ts)(n:Nd)(q C S:RS)(h:n.op=13)(c:qj qc 254 [eRS q] (eRS C))(c2:qj qc 249 [eRS C,eRS (qo (zn ts.sorts.length 2))] (eRS S)):prC ts n [q] S (decide (q.1=2)):=by
 unfold prC;refine qSQ call230 func230 rfl {} ?_;have c1:=allU ts ok 2 (by omega);generalize qo (zn ts.sorts.length 2)=D at *
 simp[go_sem,h,qh,tk,pc];refine qg.floatY [] [4,10] [0,1,2,4,7,8,9,10,11] [(3,false),(5,false),(6,false),(12,false),(13,false)] (by kernel_rfl) (by kernel_rfl) (by kernel_rfl) ?_;simp[go_sem,h,qh,tk,pc];refine qe.pure c (wkS1 q) ?_;simp[go_sem,h,qh,tk,pc];refine qe.pure c1 (wkTI ts 2) ?_;simp[go_sem,h,qh,tk,pc];refine qe.pure c2 (wkS2 C D) ?_;simp[go_sem,h,qh,tk,pc];rw[if_pos (qD _)];generalize hP:putCells _ 0 (aI S.1 :: hB S.2)=P;have hP2:P=aI S.1 :: hB S.2:=by rw[<-hP];exact pc (aI 0) _ (fun _=>false) _
 subst hP2;clear hP;simp[go_sem,h,qh,tk,pc];exact .hf _ (jf S _)
theorem apO(ts:TS)(n:Nd)(L:List RS)(h2:n.op≠2)(h3:n.op≠3)(h4:n.op≠4)(h5:n.op≠5)(h6:n.op≠6)(h14:n.op≠14)(h7:n.op≠7)(h8:n.op≠8)(h32:n.op≠32)(h33:n.op≠33)(h9:n.op≠9)(h10:n.op≠10)(h11:n.op≠11)(h12:n.op≠12)(h13:n.op≠13):prC ts n L zR true:=by
 unfold prC;refine qSQ call230 func230 rfl {} ?_;simp[go_sem,h2,h3,h4,h5,h6,h14,h7,h8,h32,h33,h9,h10,h11,h12,h13,qh,tk,pc];exact .hf _ (jf zR true)
end QN
namespace PC
open P1 P2 Y1 Y2 Y10 YZ YA PA Q3 Q4
theorem apK1(ns:Nat)(op n pos:Int)(a:Kd):yi ns op n pos [some a]=if op=2 then .ok (some ⟨n,[]⟩) else if op=3 then .ok (some (zn ns 1)) else if op=4 then .ok (some (zn ns 2)) else
  if op=5 then .ok (some a) else if op=11\/op=12\/op=13 then (if a.ar=2 then .ok (some (binK ns op a)) else .error (42,pos)) else .ok none:=rfl
theorem apK2(ns : Nat)(op n pos : Int)(a b : Kd) : yi ns op n pos [some a, some b] = if op = 2 then .ok (some ⟨n, []⟩) else if op = 3 then .ok (some (zn ns 1)) else if op = 4 then .ok (some (zn ns 2)) else
      if op=6\/op=14\/op=7\/op=8\/op=32\/op=33 then (if a.ar=b.ar then .ok (some (uS op a b)) else .error (42,pos))
      else if op=9 then (if 1<=a.ar+b.ar-2/\a.ar+b.ar-2<=3 then .ok (some (zy a b)) else .error (42,pos))
      else if op=10 then (if a.ar+b.ar<=3 then .ok (some (Qc a b)) else .error (42,pos))
      else .ok none:=rfl
theorem W3(ts:TS)(i:Nat):∀ m,i<m->m<=ts.preds.length->∀(hi:i<ts.preds.length),(tmsL ts m).getD i false=yn (mkCk ts i) ts.preds[i].body
 | 0,h,_,_=>absurd h (by omega)
 |m+1,h,hm,hi=>by
  have hl:=Qi ts m (by omega);have hmp:m<ts.preds.length:=by omega
  have e:tmsL ts (m+1)=tmsL ts m++[yn (mkCk ts m) ts.preds[m].body]:=by
   show tmsL ts m++(match ts.preds[m]? with|some p=>[yn ⟨ts,m,tmsL ts m⟩ p.body] | none=>[])=_;rw[qv hmp];rfl
  rw[e];by_cases hq:i<m
  .rw [<-W3 ts i m hq (by omega) hi]
   simp only[zE];rw[qr (by omega)]
  .have:i=m:=by omega
   subst this;simp only[zE];rw[q6 (by omega),hl];simp
abbrev tkn(es:List (ByteArray×Bool))(nm:ByteArray):Prop:=getK nm es=some true
def vLe(es:List (ByteArray×Bool))(L:Int)(nm:ByteArray):Prop:=∃ j:Nat,(j:Int)<=L/\nm=vN j/\¬tkn es nm/\jR nm=true
structure qhX (es:List (ByteArray×Bool)) (L:Int) (x:Nd):Prop where
 nc:x.op≠47
 own:ownB x=true
 nm:tkn es x.name\/vLe es L x.name
structure GoodN (es:List (ByteArray×Bool)) (L:Int) (n:Nd):Prop where
 wf:WfN n
 all:∀ x,x∈preN n->qhX es L x
end PC
namespace PG
open Y1 Y2 P1 P2 Y9 YZ
theorem qhY{ns:Nat}{op n pos:Int}{l:List (Option Kd)}{e:Dg}(h:yi ns op n pos l = .error e):40<=e.1:=by
 unfold yi at h
 repeat' split at h
 all_goals first
  | (cases h;done)
  | (cases h;simp)
theorem qhZ{c:Ck}{s:Scp}{nm:ByteArray}{pos:Int}{e:Dg}(h:yU c s nm pos = .error e):40<=e.1:=by
 unfold yU at h
 repeat' split at h
 all_goals first
  | (cases h;done)
  | (cases h;simp)
section
variable {c:Ck}
theorem Zu{inn:Bool}:∀{ks:List Nd} {s:Scp} {e:Dg},(∀ k,k∈ks->∀ s e,exam c s inn k = .error e->40<=e.1)->zo c s inn ks = .error e->40<=e.1
 | [],s,e,_,h=>by simp only[zo]at h;cases h
 |k :: ks,s,e,ih,h=>by
  simp only[zo]at h;split at h
  .rename_i e' hx
   cases h;exact ih k (zW ..) s _ hx
  .split at h
   .rename_i e' hx
    cases h;exact Zu (fun k hk=>ih k (zD _ hk)) hx
   .cases h
theorem Vi{pos:Int}:∀{ks:List Nd} {ps:List (ByteArray×Int)} {s:Scp} {e:Dg},(∀ k,k∈ks->∀ s e,exam c s true k = .error e->40<=e.1)->zP c s pos ps ks = .error e->40<=e.1
 | [],ps,s,e,_,h=>by cases ps<;>(simp only[zP]at h;cases h)
 |k :: ks,[],s,e,_,h=>by simp only[zP]at h;cases h
 |k :: ks,p :: ps,s,e,ih,h=>by
  simp only[zP]at h;split at h
  .rename_i e' hx
   cases h;exact ih k (zW ..) s _ hx
  .cases h;simp
  .split at h
   .split at h
    .exact Vi (fun k hk=>ih k (zD _ hk)) h
    .cases h;simp
   .cases h;simp
theorem qh0{inn:Bool}{nm:ByteArray}{pos:Int}:∀{ks:List Nd} {s:Scp} {e:Dg},(∀ k,k∈ks->∀ s e,exam c s inn k = .error e->40<=e.1)->yI c s inn nm pos ks = .error e->40<=e.1
 | [],s,e,_,h=>by simp only[yI]at h;cases h
 |k :: ks,s,e,ih,h=>by
  simp only[yI]at h;split at h
  .rename_i e' hx
   cases h;exact ih k (zW ..) s _ hx
  .cases h;simp
  .split at h
   .split at h
    .rename_i e' hx
     cases h;exact Zu (fun k hk=>ih k (zD _ hk)) hx
    .cases h
   .cases h;simp
theorem Qn(c:Ck):∀(m:Nat) (n:Nd) (s:Scp) (inn:Bool) (e:Dg),szN n<=m->exam c s inn n = .error e->40<=e.1
 | 0,n,_,_,_,hm,_=>by obtain⟨op,nm,i,ks,p⟩:=n;simp[szN]at hm
 |m+1,n,s,inn,e,hm,h=>by
  have ih:∀ inn k,k∈n.kids->∀ s e,exam c s inn k = .error e->40<=e.1:=fun inn k hk s e h=>Qn c m k s inn e (by have:=yj hk;omega) h
  rw[vC]at h;split at h
  .cases h;simp
  split at h
  .exact qhZ h
  split at h
  .split at h
   .split at h
    .cases h;simp
    .split at h
     .cases h;simp
     .split at h
      .exact Vi (ih true) h
      .cases h;simp
   .cases h;simp
  split at h
  .exact qh0 (ih _) h
  .split at h
   .rename_i e' hx
    cases h;exact Zu (ih _) hx
   .exact qhY h
end
theorem qh1{ks:List Nd}{k:Nd}(h:k∈ks):depN k<=yq ks:=by
 induction ks with
 |nil=>simp at h
 |cons a l ih =>
  simp only[yq];rcases qz.1 h with rfl|h
  .omega
  .have:=ih h;omega
theorem qh2(n:Nd):1<=depN n:=by
 rw[Zw];have:∀ ks:List Nd,0<=yq ks:=by
  intro ks;induction ks with
  |nil=>simp[yq]
  |cons a l ih=>simp only[yq];omega
 have:=this n.kids;omega
end PG
namespace QO
open YF Y9 Y10 Y1 Y2 Y3 Y12 Y13 P1 P2 QD QE QF QH QI QJ QL QN PG PC
theorem gW{ts:TS}{n:Nd}{L:List RS}{S S':RS}{b:Bool}(e:eRS S=eRS S')(h:prC ts n L S b):prC ts n L S' b:=by
 unfold prC at h⊢;rw[<-e];exact h
theorem qh3{ts:TS}{n:Nd}{a b:Kd}(ho:n.op=6\/n.op=14\/n.op=7\/n.op=8\/n.op=32\/n.op=33):∃ S,prC ts n [qo a,qo b] S (decide (a.ar=b.ar))/\(a.ar=b.ar->kd n.op=101->S=qo (uS n.op a b)):=by
 have e6:∀ op:Int,op=6\/op=14->uS op a b=kSum a b:=fun op h=>by unfold uS;rw[if_pos h]
 by_cases har:a.ar=b.ar
 .rcases ho with h|h|h|h|h|h
  .exact ⟨_,ap6 ts n _ _ _ h (by have:=jO (qo a) (qo b);rw[Yv har]at this;exact this),fun _ _=>by rw[h,e6 6 (.inl rfl)]⟩
  .exact ⟨_,ap14 ts n _ _ _ h (by have:=jO (qo a) (qo b);rw[Yv har]at this;exact this),fun _ _=>by rw[h,e6 14 (.inr rfl)]⟩
  .exact ⟨_,ap7 ts n _ _ _ h (by have:=J6 (qo a) (qo b);rw[qhB har]at this;exact this),fun _ _=>by rw[h];rfl⟩
  .exact ⟨_,ap8 ts n _ _ h,fun _ _=>by rw[h];rfl⟩
  .exact ⟨_,ap32 ts n _ _ h,fun _ hk=>by rw[h]at hk;exact absurd hk (by decide)⟩
  .exact ⟨_,ap33 ts n _ _ h,fun _ hk=>by rw[h]at hk;exact absurd hk (by decide)⟩
 .rcases ho with h|h|h|h|h|h
  .exact ⟨_,ap6 ts n _ _ _ h (jO (qo a) (qo b)),fun e=>absurd e har⟩
  .exact ⟨_,ap14 ts n _ _ _ h (jO (qo a) (qo b)),fun e=>absurd e har⟩
  .exact ⟨_,ap7 ts n _ _ _ h (J6 (qo a) (qo b)),fun e=>absurd e har⟩
  .exact ⟨_,ap8 ts n _ _ h,fun e=>absurd e har⟩
  .exact ⟨_,ap32 ts n _ _ h,fun e=>absurd e har⟩
  .exact ⟨_,ap33 ts n _ _ h,fun e=>absurd e har⟩
theorem qh4{ts:TS}(ok:okTS ts){n:Nd}{a:Kd}(ha:okKd ts.sorts.length a)(ho:n.op=11\/n.op=12\/n.op=13):∃ S,prC ts n [qo a] S (decide (a.ar=2))/\(a.ar=2->S=qo (binK ts.sorts.length n.op a)):=by
 have hns:=ok.ns;by_cases h2:a.ar=2
 .have hc:=JL ha h2 hns
  rcases ho with h|h|h
  .exact ⟨_,ap11 ts n _ _ h (by have:=gC (qo a);rw[qhH ha hns h2]at this;exact this),fun _=>by rw[h];rfl⟩
  .exact ⟨_,ap12 ts n _ _ h hc,fun _=>by rw[h];rfl⟩
  .refine ⟨_,ap13 ts ok n _ _ (qo (kSum (kClo a) (zn ts.sorts.length 2))) h hc ?_,fun _=>by rw[h];rfl⟩
   have:=jO (qo (kClo a)) (qo (zn ts.sorts.length 2));rw[Yv (show (kClo a).ar=2 from (J9 ha h2).2)]at this;exact this
 .have har:=ha.ar
  rcases ho with h|h|h
  .exact ⟨_,ap11 ts n _ _ h (gC (qo a)),fun e=>absurd e h2⟩
  .exact ⟨_,ap12 ts n _ _ h (gV (qo a) har),fun e=>absurd e h2⟩
  .exact ⟨_,ap13 ts ok n _ _ _ h (gV (qo a) har) (jO _ _),fun e=>absurd e h2⟩
theorem qh5(ts:TS)(ok:okTS ts)(n:Nd)(l:List (Option Kd))(L:List RS)(e1:n.op≠1)(e15:n.op≠15)
  (h1:n.op=5\/n.op=11\/n.op=12\/n.op=13->∃ a,l=[some a]/\L=[qo a]/\okKd ts.sorts.length a)
  (h2:n.op=6\/n.op=14\/n.op=7\/n.op=8\/n.op=32\/n.op=33\/n.op=9\/n.op=10->∃ a b,l=[some a,some b]/\L=[qo a,qo b]/\okKd ts.sorts.length a/\okKd ts.sorts.length b) :
  ∃ S b,prC ts n L S b/\ApE n.op (yi ts.sorts.length n.op n.n n.pos l) S b:=by
 have hns:=ok.ns;by_cases o2:n.op=2
 .refine ⟨qo ⟨n.n,[]⟩,true,gW (gT n.n) (ap2 ts n L o2),?_⟩
  unfold yi;rw[if_pos o2];exact⟨rfl,fun _=>⟨_,rfl,rfl⟩⟩
 by_cases o3:n.op=3
 .refine ⟨_,true,ap3 ts ok n L o3,?_⟩
  unfold yi;rw[if_neg o2,if_pos o3];exact⟨rfl,fun _=>⟨_,rfl,rfl⟩⟩
 by_cases o4:n.op=4
 .refine ⟨_,true,ap4 ts ok n L o4,?_⟩
  unfold yi;rw[if_neg o2,if_neg o3,if_pos o4];exact⟨rfl,fun _=>⟨_,rfl,rfl⟩⟩
 by_cases g1:n.op=5\/n.op=11\/n.op=12\/n.op=13
 .obtain ⟨a,rfl,rfl,ha⟩:=h1 g1
  rw[apK1,if_neg o2,if_neg o3,if_neg o4];by_cases o5:n.op=5
  .rw [if_pos o5]
   exact⟨_,true,ap5 ts n _ o5,rfl,fun _=>⟨_,rfl,rfl⟩⟩
  have g:n.op=11\/n.op=12\/n.op=13:=by omega
  rw[if_neg o5,if_pos g];obtain⟨S,hc,hS⟩:=qh4 ok ha g;refine⟨S,_,hc,?_⟩;by_cases har:a.ar=2
  .rw [if_pos har]
   exact⟨decide_eq_true har,fun _=>⟨_,rfl,hS har⟩⟩
  .rw [if_neg har]
   exact decide_eq_false har
 by_cases g2:n.op=6\/n.op=14\/n.op=7\/n.op=8\/n.op=32\/n.op=33\/n.op=9\/n.op=10
 .obtain ⟨a,b,rfl,rfl,ha,hb⟩:=h2 g2
  have ra:=ha.ar;have rb:=hb.ar;rw[apK2,if_neg o2,if_neg o3,if_neg o4];by_cases g3:n.op=6\/n.op=14\/n.op=7\/n.op=8\/n.op=32\/n.op=33
  .rw [if_pos g3]
   obtain⟨S,hc,hS⟩:=qh3 (ts:=ts) (n:=n) (a:=a) (b:=b) g3;refine⟨S,_,hc,?_⟩;by_cases har:a.ar=b.ar
   .rw [if_pos har]
    exact⟨decide_eq_true har,fun hk=>⟨_,rfl,hS har hk⟩⟩
   .rw [if_neg har]
    exact decide_eq_false har
  rw[if_neg g3];by_cases o9:n.op=9
  .rw [if_pos o9]
   by_cases har:1<=a.ar+b.ar-2/\a.ar+b.ar-2<=3
   .rw [if_pos har]
    refine⟨_,_,ap9 ts n _ _ (qo (zy a b)) o9 (by show 0<=a.ar/\a.ar<=1000;omega) (by show 0<=b.ar/\b.ar<=1000;omega) ?_,decide_eq_true har,fun _=>⟨_,rfl,rfl⟩⟩;rw[<-gL ha hb hns har];exact ul _ _ (by show 0<=a.ar/\a.ar<=1000;omega) (by show 1<=b.ar/\b.ar<=1000;omega)
   .rw [if_neg har]
    exact⟨_,_,ap9 ts n _ _ _ o9 (by show 0<=a.ar/\a.ar<=1000;omega) (by show 0<=b.ar/\b.ar<=1000;omega) (ul _ _ (by show 0<=a.ar/\a.ar<=1000;omega) (by show 1<=b.ar/\b.ar<=1000;omega)),decide_eq_false har⟩
  have o10:n.op=10:=by omega
  rw[if_neg o9,if_pos o10];by_cases har:a.ar+b.ar<=3
  .rw [if_pos har]
   refine⟨_,_,ap10 ts n _ _ (qo (Qc a b)) o10 (by show 0<=a.ar/\a.ar<=1000;omega) (by show 0<=b.ar/\b.ar<=1000;omega) ?_,decide_eq_true har,fun _=>⟨_,rfl,rfl⟩⟩;rw[<-qhC ha hb hns har];exact gD _ _ (by show 0<=a.ar/\a.ar<=1000;omega) (by show 0<=b.ar/\b.ar<=1000;omega)
  .rw [if_neg har]
   exact⟨_,_,ap10 ts n _ _ _ o10 (by show 0<=a.ar/\a.ar<=1000;omega) (by show 0<=b.ar/\b.ar<=1000;omega) (gD _ _ (by show 0<=a.ar/\a.ar<=1000;omega) (by show 0<=b.ar/\b.ar<=1000;omega)),decide_eq_false har⟩
 refine⟨zR,true,apO ts n L o2 o3 o4 (by omega) (by omega) (by omega) (by omega) (by omega) (by omega) (by omega) (by omega) (by omega) (by omega) (by omega) (by omega),?_⟩;rw[Wa o2 o3 o4 (by omega) (by omega) (by omega) (by omega) (by omega) (by omega) (by omega) (by omega) (by omega) (by omega) (by omega) (by omega)];refine⟨rfl,fun hk=>?_⟩;have:=Wc hk;omega
theorem gX{ns:Nat}(hns:ns<=4){q:Kd}(h:okKd ns q)(h1:q.ar=1)(i:Int):vR i q=true↔∀ k:Nat,k<4->(qo q).2 k=true->(k:Int)=i:=by
 unfold vR;rw[qC];constructor
 .intro ha k hk hs
  rw[yr,h1]at hs;have:=ha _ hs.2;simpa[dig,pad] using this
 .intro ha t ht
  obtain⟨j,hj,e⟩:=ZA h hns ht;rw[h1]at hj e;have hj4:j<4:=hj;have:=ha j hj4 ((yr q j).2 ⟨by rw[h1];exact hj4,by rw[h1,<-e];exact ht⟩);rw[e];simp[dig,pad,this]
def ExR(c:Ck)(s:Scp)(inn:Bool)(n:Nd):Prop:=∃ S:RS,qj qc 196 [eVw c inn,lVr (envS s),eNd n] (.tup [eRS S,eDg (dgOf (exam c s inn n))])/\(kd n.op=101->∀ q,exam c s inn n = .ok (some q)->S=qo q)
theorem gY(c:Ck)(inn:Bool):HF (eVw c inn):=HF.agg fun x hx=>by
 simp only[qz,zk,or_false]at hx;rcases hx with rfl|rfl|rfl|rfl|rfl|rfl|rfl
 .exact JN _
 .exact JO _
 .exact wC _
 .exact Ye _
 .exact Yz _
 .exact HF.sc _
 .exact HF.sc _
theorem wkE(c:Ck)(inn:Bool)(l:List Vr)(n:Nd):WKs [eVw c inn,lVr l,eNd n] [eVw c inn,lVr l,eNd n] := .cons (.hf (gY c inn)) (.cons (.hf (qhR _)) (.cons (.hf (qH n)) .nil))
theorem vb(d:Dg):HF (eDg d):=HF.agg fun x hx=>by
 simp only[qz,zk,or_false]at hx;rcases hx with rfl|rfl<;>exact HF.sc _
theorem gZ{c:Ck}{nm:ByteArray}{p:Nat}(hc:okCk c)(h:zA c nm=some p):(c.ts.preds.any fun p=>decide (p.name=nm))=true:=by
 obtain⟨_,hp⟩:=Yf hc h;unfold zA at h;rw[List.findIdx?_eq_some_iff_getElem]at h;obtain⟨hi,a1,_⟩:=h;simp only[List.getElem_take]at a1;exact List.any_eq_true.2 ⟨_,qw hp,a1⟩
theorem qh6{ts:TS}{nm:ByteArray}(h:zA (mkCk ts ts.preds.length) nm=none):(ts.preds.any fun p=>decide (p.name=nm))=false:=by
 unfold zA at h;rw[List.findIdx?_eq_none_iff]at h;rw[List.any_eq_false];intro p hp;have:p∈ts.preds.take ts.preds.length:=by rw[zw];exact hp
 have:=h p this;simpa using this
theorem g7{n:Nd}(hw:WfN n)(h:n.op=47):∀ k,k∈n.kids->kd k.op=101:=by
 have hsh:=hw.shape;have e:shp n.op n.kids.length=some (qW (min n.kids.length 401) 101):=by
  unfold shp;rw[if_neg (by omega),if_neg (by omega),if_neg (by omega),if_neg (by omega),if_neg (by omega),if_neg (by omega),if_neg (by omega),if_pos h]
 rw[e]at hsh;simp only[qp]at hsh;intro k hk;have:kd k.op∈n.kids.map fun k=>kd k.op:=qq.2 ⟨k,hk,rfl⟩
 rw[<-hsh]at this;exact List.eq_of_mem_replicate this
theorem qh7(c:Ck)(hc:okCk c)(s:Scp)(hs:ScOk c.ts.sorts.length s)(n:Nd)(hw:WfN n)(hop:n.op=47)(ih:∀ k,k∈n.kids->ExR c s true k)(inn:Bool) :
  qj qc 228 [eVw c inn,lVr (envS s),eNd n] (eDg (dgOf (vT c s n))):=by
 generalize hR:vT c s n=R;unfold vT at hR;refine qSQ call228 func228 rfl { mt:=[3] } ?_;have hnp:=hc.ts.np;have hkl:=hw.len;have hp1:=Vy c hc n.name;have hp2:=Vy (mkCk c.ts c.ts.preds.length) (Zo hc.ts (qs _)) n.name;have hwp:∀ k:Int,WKs [eTS c.ts,aI k,aS n.name] [eTS c.ts,aI k,aS n.name]:=fun k => .cons (.hf (zh _)) (.cons (.hf (HF.sc _)) (.cons (.hf (HF.sc _)) .nil))
 simp[go_sem];refine qe.pure hp1 (hwp _) ?_;cases hcal:zA c n.name with
 |none =>
  rw[hcal]at hR;simp[go_sem,idxO];refine qe.pure hp2 (hwp _) ?_;cases hcal2:zA (mkCk c.ts c.ts.preds.length) n.name with
  |none =>
   rw[qh6 hcal2]at hR;subst hR;simp[go_sem,idxO,dgOf];exact .hf _ (vb (40,n.pos))
  |some p =>
   have ha:(c.ts.preds.any fun p=>decide (p.name=n.name))=true:=gZ (c:=mkCk c.ts c.ts.preds.length) (Zo hc.ts (qs _)) hcal2;rw[ha]at hR;subst hR;have hp0:¬(p:Int)<0:=by omega
   simp[go_sem,idxO,dgOf,hp0];exact .hf _ (vb (45,n.pos))
 |some p =>
  obtain⟨_,hlt⟩:=Yf hc hcal;rw[gZ hc hcal,if_pos rfl,hcal]at hR;simp only[qv hlt]at hR;have hp0:¬(p:Int)<0:=by omega
  have hpd:=hc.ts.pl _ (qw hlt);simp[go_sem,idxO,hlt,vA,hp0];generalize hpp:c.ts.preds[p]=pd at *
  by_cases hpl:pd.params.length=n.kids.length
  .rw [if_pos hpl]at hR
   simp[go_sem,hpl];have hkd:=g7 hw hop;refine qn.upK pd.params.length (fun k st=>st.tm 1=lVr (envS s)/\st.tm 3 = .ptr 0 0/\st.tm 5 = .ip (cNd n)/\st.tm 6 = .ptr 1 0/\st.tm 8=lPm pd.params/\st.tm 9=aI k/\st.mu[0]?=some (.arr (cVw c true))/\st.mu[1]?=some (.arr [aI 0,aI 0])/\zP c s n.pos (pd.params.drop k) (n.kids.drop k)=R) ?_ ?_
   .exact ⟨by simp[go_sem],by simp[go_sem],by simp[go_sem],by simp[go_sem],by simp[go_sem],by simp[go_sem],by simp[go_sem],by simp[go_sem],by simpa using hR⟩
   rintro k st hk ⟨e1,e3,e5,e6,e8,e9,m0,m1,hE⟩;have hml:1<st.mu.length:=(qk.1 m1).1;have hpush:∀(l:List Cell) (i:Nat),i<st.mu.length->(st.mu++l)[i]?=st.mu[i]?:=fun l i hi=>qr hi
   have hset:∀ c,(st.mu.set 1 c)[1]?=some c:=fun c=>za hml
   have hset2:∀ c (l:List Cell),((st.mu++l).set 1 c)[1]?=some c:=fun c l=>za (by simp;omega)
   have hg0:∀(l:List Cell) (h:0<(st.mu++l).length),(st.mu++l)[0] = .arr (cVw c true):=fun l h=>by
    rw[Xj (by omega)];exact(qk.1 m0).2
   have hg1:∀(l:List Cell) (h:1<(st.mu++l).length),(st.mu++l)[1] = .arr [aI 0,aI 0]:=fun l h=>by
    rw[Xj (by omega)];exact(qk.1 m1).2
   by_cases hkl':k=pd.params.length
   .subst hkl'
    rw[zN,hpl,zN]at hE;simp only[zP]at hE;subst hE;simp[go_sem,e1,e3,e5,e6,e8,e9,m0,m1,hpl,dgOf,hset];exact .hf _ (vb (0,0))
   have hlt1:k<pd.params.length:=by omega
   have hlt2:k<n.kids.length:=by omega
   have w1:ql.wrap ((k:Int)+1)=(k:Int)+1:=qi (by omega) (by omega);obtain⟨S,hi,hS⟩:=ih n.kids[k] (qw hlt2);rw[zi hlt1,zi hlt2]at hE;simp only[zP]at hE;have hok:=u3 hc (szN n.kids[k]) n.kids[k] s true;have hkk:=hkd n.kids[k] (qw hlt2);have hwk':=hw.kid (qw hlt2);simp[go_sem,e1,e3,e5,e6,e8,e9,m0,m1,hlt1,hlt2,qm];refine qg.move 11 1 (by kernel_rfl) (by kernel_rfl) ?_ ?_
   .simp [go_sem,e1,e3,e5,e6,e8,e9,m0,m1,hlt1,hlt2,qm]
    refine qe.pure hi (wkE c true _ _) ?_;cases hx:exam c s true n.kids[k] with
    |error e =>
     rw[hx]at hE;subst hE;have he:=Qn c (szN n.kids[k]) n.kids[k] s true e (qs _) hx;have he0:¬e.1=0:=by omega
     simp[go_sem,e1,e3,e5,e6,e8,e9,m0,m1,hlt1,hlt2,qh,QE.tk,pc,hpush,he0,dgOf];rw[if_pos (qD _)];generalize hP:putCells _ 0 (aI S.1 :: hB S.2)=P;have hP2:P=aI S.1 :: hB S.2:=by rw[<-hP];exact pc (aI 0) _ (fun _=>false) _
     subst hP2;clear hP;simp[go_sem,e1,e3,e5,e6,e8,e9,m0,m1,hlt1,hlt2,qh,QE.tk,pc,hpush,he0,dgOf];simp[go_sem,hg1,hset2,e6];exact .hf _ (vb e)
    |ok ko =>
     obtain⟨q,rfl,hq⟩:=hok ko (qs _) hwk' hs hx hkk;have hSq:=hS hkk q hx;subst hSq;rw[hx]at hE;simp only at hE;have hns:=hc.ts.ns;have haq:(qo q).1=q.ar:=rfl;have hag:=fun h=>gX hns hq h pd.params[k].2
     generalize qo q=Q at *
     simp[go_sem,e1,e3,e5,e6,e8,e9,m0,m1,hlt1,hlt2,qh,QE.tk,pc,hpush,dgOf];rw[if_pos (qD _)];generalize hP:putCells _ 0 (aI Q.1 :: hB Q.2)=P;have hP2:P=aI Q.1 :: hB Q.2:=by rw[<-hP];exact pc (aI 0) _ (fun _=>false) _
     subst hP2;clear hP;by_cases har:q.ar=1
     .rw [if_pos har]at hE
      have har':Q.1=1:=haq.trans har;simp[go_sem,e1,e3,e5,e6,e8,e9,m0,m1,hlt1,hlt2,qh,QE.tk,pc,hpush,dgOf,har'];have hfst:pd.params[k].2<4/\0<=pd.params[k].2:=by have:=hpd.2 _ (qw hlt1);omega
      refine qn.upK 4 (fun j st'=>∃ b,2<=b/\st'.tm 10 = .ptr b 0/\st'.mu[b]?=some (.arr (aI 1 :: hB Q.2))/\st'.tm 1=lVr (envS s)/\st'.tm 3 = .ptr 0 0/\st'.tm 5 = .ip (cNd n)/\st'.tm 6 = .ptr 1 0/\st'.tm 8=lPm pd.params/\st'.tm 9=aI k/\st'.tm 12=aI j/\st'.mu[0]?=some (.arr (cVw c true))/\st'.mu[1]?=some (.arr [aI 0,aI 0]) /\
       ∀ i:Nat,i<j->Q.2 i=true->(i:Int)=pd.params[k].2) ?_ ?_
      .exact ⟨st.mu.length,by omega,by simp[go_sem],by simp[go_sem],by simp[go_sem,e1],by simp[go_sem,e3],by simp[go_sem,e5],by simp[go_sem,e6],by simp[go_sem,e8],by simp[go_sem,e9],by simp[go_sem],by simp only[qM];rw[hpush _ _ (by omega)];exact m0,by simp only[qM];rw[hpush _ _ (by omega)];exact m1,fun i hi=>by omega⟩
      .clear e1 e3 e5 e6 e8 e9 m0 m1 hpush hset hset2 hg0 hg1 hml
       rintro j st2 hj ⟨b,hb,e10,mb,e1,e3,e5,e6,e8,e9,e12,m0,m1,hall⟩;have hml:1<st2.mu.length:=(qk.1 m1).1;have hset:∀ c,(st2.mu.set 1 c)[1]?=some c:=fun c=>za hml
       by_cases hj4:j<4
       .have hjl:(j:Int)<4:=by omega
        have hj64:j<64:=by omega
        have hj64':(j:Int)<64:=by omega
        have wj:ql.wrap ((j:Int)+1)=(j:Int)+1:=qi (by omega) (by omega);have hd1:=d1 (aI 1) Q.2 j hj64;have hi1:1+j<=64:=by omega
        by_cases hQ:Q.2 j=true
        .rw [hQ]at hd1
         by_cases hq2:(j:Int)=pd.params[k].2
         .have hq3:=eq_true hq2
          simp[go_sem,e10,mb,e1,e3,e5,e6,e8,e9,e12,hjl,hj64,hj64',hd1,hi1,qh,hlt1,hq3,wj];refine⟨hj4,Keep.mk' ⟨b,hb,by simp[go_sem,e10],by simp[go_sem,mb],by simp[go_sem,e1],by simp[go_sem,e3],by simp[go_sem,e5],by simp[go_sem,e6],by simp[go_sem,e8],by simp[go_sem,e9],by simp[go_sem],by simp[go_sem,m0],by simp[go_sem,m1],fun i hi h=>?_⟩⟩;by_cases hij:i=j
          .subst hij;exact hq2
          .exact hall i (by omega) h
         .have hbad:¬vR pd.params[k].2 q=true:=fun h=>hq2 ((hag har).1 h j hj4 hQ)
          rw[if_neg hbad]at hE;subst hE;simp[go_sem,e10,mb,e1,e3,e5,e6,e8,e9,e12,hjl,hj64,hj64',hd1,hi1,qh,hlt1,hq2,wj,m1,hset];exact .hf _ (vb (43,n.pos))
        .have hQ:Q.2 j=false:=by simpa using hQ
         rw[hQ]at hd1;simp[go_sem,e10,mb,e1,e3,e5,e6,e8,e9,e12,hjl,hj64,hj64',hd1,hi1,qh,hlt1,wj];refine⟨hj4,Keep.mk' ⟨b,hb,by simp[go_sem,e10],by simp[go_sem,mb],by simp[go_sem,e1],by simp[go_sem,e3],by simp[go_sem,e5],by simp[go_sem,e6],by simp[go_sem,e8],by simp[go_sem,e9],by simp[go_sem],by simp[go_sem,m0],by simp[go_sem,m1],fun i hi h=>?_⟩⟩;by_cases hij:i=j
         .subst hij;rw[hQ]at h;cases h
         .exact hall i (by omega) h
       .have hje:j=4:=by omega
        subst hje;have hgood:vR pd.params[k].2 q=true:=(hag har).2 fun i hi h=>hall i hi h
        rw[if_pos hgood]at hE;simp[go_sem,e10,mb,e1,e3,e5,e6,e8,e9,e12,w1];exact⟨hlt1,Keep.mk' ⟨by simp[go_sem,e1],by simp[go_sem,e3],by simp[go_sem,e5],by simp[go_sem,e6],by simp[go_sem,e8],by simp[go_sem],by simp[go_sem,m0],by simp[go_sem,m1],hE⟩⟩
     .rw [if_neg har]at hE
      subst hE;have har':¬Q.1=1:=fun e=>har (haq.symm.trans e)
      simp[go_sem,e1,e3,e5,e6,e8,e9,m0,m1,hlt1,hlt2,qh,QE.tk,pc,hpush,dgOf,har',hg1,hset2,e6];exact .hf _ (vb (42,n.pos))
   .simp [go_sem,e1,e3,e5,e6,e8,e9,m0,m1,hlt1,hlt2,qm]
    refine qe.pure hi (wkE c true _ _) ?_;cases hx:exam c s true n.kids[k] with
    |error e =>
     rw[hx]at hE;subst hE;have he:=Qn c (szN n.kids[k]) n.kids[k] s true e (qs _) hx;have he0:¬e.1=0:=by omega
     simp[go_sem,e1,e3,e5,e6,e8,e9,m0,m1,hlt1,hlt2,qh,QE.tk,pc,hpush,he0,dgOf];rw[if_pos (qD _)];generalize hP:putCells _ 0 (aI S.1 :: hB S.2)=P;have hP2:P=aI S.1 :: hB S.2:=by rw[<-hP];exact pc (aI 0) _ (fun _=>false) _
     subst hP2;clear hP;simp[go_sem,e1,e3,e5,e6,e8,e9,m0,m1,hlt1,hlt2,qh,QE.tk,pc,hpush,he0,dgOf];simp[go_sem,hg1,hset2,e6];exact .hf _ (vb e)
    |ok ko =>
     obtain⟨q,rfl,hq⟩:=hok ko (qs _) hwk' hs hx hkk;have hSq:=hS hkk q hx;subst hSq;rw[hx]at hE;simp only at hE;have hns:=hc.ts.ns;have haq:(qo q).1=q.ar:=rfl;have hag:=fun h=>gX hns hq h pd.params[k].2
     generalize qo q=Q at *
     simp[go_sem,e1,e3,e5,e6,e8,e9,m0,m1,hlt1,hlt2,qh,QE.tk,pc,hpush,dgOf];rw[if_pos (qD _)];generalize hP:putCells _ 0 (aI Q.1 :: hB Q.2)=P;have hP2:P=aI Q.1 :: hB Q.2:=by rw[<-hP];exact pc (aI 0) _ (fun _=>false) _
     subst hP2;clear hP;by_cases har:q.ar=1
     .rw [if_pos har]at hE
      have har':Q.1=1:=haq.trans har;simp[go_sem,e1,e3,e5,e6,e8,e9,m0,m1,hlt1,hlt2,qh,QE.tk,pc,hpush,dgOf,har'];have hfst:pd.params[k].2<4/\0<=pd.params[k].2:=by have:=hpd.2 _ (qw hlt1);omega
      refine qn.upK 4 (fun j st'=>∃ b,2<=b/\st'.tm 10 = .ptr b 0/\st'.mu[b]?=some (.arr (aI 1 :: hB Q.2))/\st'.tm 1=lVr (envS s)/\st'.tm 3 = .ptr 0 0/\st'.tm 5 = .ip (cNd n)/\st'.tm 6 = .ptr 1 0/\st'.tm 8=lPm pd.params/\st'.tm 9=aI k/\st'.tm 12=aI j/\st'.mu[0]?=some (.arr (cVw c true))/\st'.mu[1]?=some (.arr [aI 0,aI 0]) /\
       ∀ i:Nat,i<j->Q.2 i=true->(i:Int)=pd.params[k].2) ?_ ?_
      .exact ⟨st.mu.length+1,by omega,by simp[go_sem],by simp[go_sem],by simp[go_sem,e1],by simp[go_sem,e3],by simp[go_sem,e5],by simp[go_sem,e6],by simp[go_sem,e8],by simp[go_sem,e9],by simp[go_sem],by simp only[qM];rw[hpush _ _ (by omega)];exact m0,by simp only[qM];rw[hpush _ _ (by omega)];exact m1,fun i hi=>by omega⟩
      .clear e1 e3 e5 e6 e8 e9 m0 m1 hpush hset hset2 hg0 hg1 hml
       rintro j st2 hj ⟨b,hb,e10,mb,e1,e3,e5,e6,e8,e9,e12,m0,m1,hall⟩;have hml:1<st2.mu.length:=(qk.1 m1).1;have hset:∀ c,(st2.mu.set 1 c)[1]?=some c:=fun c=>za hml
       by_cases hj4:j<4
       .have hjl:(j:Int)<4:=by omega
        have hj64:j<64:=by omega
        have hj64':(j:Int)<64:=by omega
        have wj:ql.wrap ((j:Int)+1)=(j:Int)+1:=qi (by omega) (by omega);have hd1:=d1 (aI 1) Q.2 j hj64;have hi1:1+j<=64:=by omega
        by_cases hQ:Q.2 j=true
        .rw [hQ]at hd1
         by_cases hq2:(j:Int)=pd.params[k].2
         .have hq3:=eq_true hq2
          simp[go_sem,e10,mb,e1,e3,e5,e6,e8,e9,e12,hjl,hj64,hj64',hd1,hi1,qh,hlt1,hq3,wj];refine⟨hj4,Keep.mk' ⟨b,hb,by simp[go_sem,e10],by simp[go_sem,mb],by simp[go_sem,e1],by simp[go_sem,e3],by simp[go_sem,e5],by simp[go_sem,e6],by simp[go_sem,e8],by simp[go_sem,e9],by simp[go_sem],by simp[go_sem,m0],by simp[go_sem,m1],fun i hi h=>?_⟩⟩;by_cases hij:i=j
          .subst hij;exact hq2
          .exact hall i (by omega) h
         .have hbad:¬vR pd.params[k].2 q=true:=fun h=>hq2 ((hag har).1 h j hj4 hQ)
          rw[if_neg hbad]at hE;subst hE;simp[go_sem,e10,mb,e1,e3,e5,e6,e8,e9,e12,hjl,hj64,hj64',hd1,hi1,qh,hlt1,hq2,wj,m1,hset];exact .hf _ (vb (43,n.pos))
        .have hQ:Q.2 j=false:=by simpa using hQ
         rw[hQ]at hd1;simp[go_sem,e10,mb,e1,e3,e5,e6,e8,e9,e12,hjl,hj64,hj64',hd1,hi1,qh,hlt1,wj];refine⟨hj4,Keep.mk' ⟨b,hb,by simp[go_sem,e10],by simp[go_sem,mb],by simp[go_sem,e1],by simp[go_sem,e3],by simp[go_sem,e5],by simp[go_sem,e6],by simp[go_sem,e8],by simp[go_sem,e9],by simp[go_sem],by simp[go_sem,m0],by simp[go_sem,m1],fun i hi h=>?_⟩⟩;by_cases hij:i=j
         .subst hij;rw[hQ]at h;cases h
         .exact hall i (by omega) h
       .have hje:j=4:=by omega
        subst hje;have hgood:vR pd.params[k].2 q=true:=(hag har).2 fun i hi h=>hall i hi h
        rw[if_pos hgood]at hE;simp[go_sem,e10,mb,e1,e3,e5,e6,e8,e9,e12,w1];exact⟨hlt1,Keep.mk' ⟨by simp[go_sem,e1],by simp[go_sem,e3],by simp[go_sem,e5],by simp[go_sem,e6],by simp[go_sem,e8],by simp[go_sem],by simp[go_sem,m0],by simp[go_sem,m1],hE⟩⟩
     .rw [if_neg har]at hE
      subst hE;have har':¬Q.1=1:=fun e=>har (haq.symm.trans e)
      simp[go_sem,e1,e3,e5,e6,e8,e9,m0,m1,hlt1,hlt2,qh,QE.tk,pc,hpush,dgOf,har',hg1,hset2,e6];exact .hf _ (vb (42,n.pos))
  .rw [if_neg hpl]at hR
   subst hR;have hpl':¬n.kids.length=pd.params.length:=fun e=>hpl e.symm
   simp[go_sem,hpl',dgOf];exact .hf _ (vb (45,n.pos))
end QO
namespace QR
open Y9 Y10 Y1 Y2 Y12 P1 P2 QE QF QJ QL QN PG QO
theorem g8{n:Nd}(hw:WfN n)(h:n.op=15\/n.op=45\/n.op=46):∃ a f,n.kids=[a,f]/\kd a.op=101:=by
 have hs:=hw.shape;unfold shp at hs;rw[if_neg (by omega),if_neg (by omega),if_neg (by omega),if_pos (by omega)]at hs;simp only[qp]at hs
 match hk:n.kids,hs with
 | [a,f],hs =>
  simp at hs;exact⟨a,f,rfl,hs.1.symm⟩
 | [],hs=>simp at hs
 | [_],hs=>simp at hs
 |_ :: _ :: _ :: _,hs=>simp at hs
theorem five{α:Type}{l:List α}{a b c d e:α}(h0:l[0]?=some a)(h1:l[1]?=some b)(h2:l[2]?=some c)(h3:l[3]?=some d)(h4:l[4]?=some e):∃ r,l=a :: b :: c :: d :: e :: r:=by
 match l,h0,h1,h2,h3,h4 with
 |_ :: _ :: _ :: _ :: _ :: r,h0,h1,h2,h3,h4 =>
  simp at h0 h1 h2 h3 h4;exact⟨r,by rw[h0,h1,h2,h3,h4]⟩
def YJ:Res->RS
 | .ok (some k)=>if k.ar=1 then qo k else zR
 |_=>zR
theorem qh8(s:RS)(d:Dg):FL (.tup [eRS s,eDg d]):=FL.tup fun x hx=>by
 rcases qz.1 hx with rfl|hx
 .exact FL.agg fun c hc=>by
   rcases qz.1 hc with rfl|hc
   .exact FL.sc _
   .obtain ⟨j,_,rfl⟩:=qq.1 hc
    exact FL.sc _
 .rw [qY]at hx;subst hx
  exact FL.agg fun c hc=>by
   rcases qz.1 hc with rfl|hc
   .exact FL.sc _
   .rw [qY]at hc;subst hc;exact FL.sc _
theorem qh9(c:Ck)(hc:okCk c)(s:Scp)(hs:ScOk c.ts.sorts.length s)(hsl:s.length<=90000)(n a g:Nd)(hw:WfN n)(hb:n.op=15\/n.op=45\/n.op=46)(hks:n.kids=[a,g])(hka:kd a.op=101)(inn:Bool)
  (iha:ExR c s (inn||decide (n.op=15)) a) (ihg:∀ k,okKd c.ts.sorts.length k->k.ar=1->ExR c ((n.name,k) :: s) (inn||decide (n.op=15)) g) :
  qj qc 229 [eVw c inn,lVr (envS s),eNd n] (.tup [eRS (YJ (exam c s (inn||decide (n.op=15)) a)),eDg (dgOf (yI c s (inn||decide (n.op=15)) n.name n.pos n.kids))]):=by
 have wa:=hw.kid (k:=a) (by rw[hks];simp);obtain⟨S,ca,hS⟩:=iha;have hok:=u3 hc (szN a) a s (inn||decide (n.op=15));have herr:=Qn c (szN a) a s (inn||decide (n.op=15));rw[hks];have w1:=wkE c (inn||decide (n.op=15)) (envS s) a;have hB2:n.op=15->(inn||decide (n.op=15))=true:=fun h=>by simp[h]
 have hB3:¬n.op=15->(inn||decide (n.op=15))=inn:=fun h=>by simp[h]
 generalize (inn||decide (n.op=15))=B at *
 generalize hE:dgOf (yI c s B n.name n.pos [a,g])=E;generalize hX:exam c s B a=X at *
 have ihg2:∀ k,okKd c.ts.sorts.length k->k.ar=1->X = .ok (some k)->∃ S2,qj qc 196 [eVw c B,lVr (envS ((n.name,k) :: s)),eNd g] (.tup [eRS S2,eDg E]):=fun k hk har hXk=>by
  obtain⟨S2,cg,_⟩:=ihg k hk har;refine⟨S2,?_⟩;have hEe:E=dgOf (exam c ((n.name,k) :: s) B g):=by
   rw[<-hE];simp only[yI,zo];rw[hX,hXk];simp only;rw[if_pos har];cases exam c ((n.name,k) :: s) B g<;>rfl
  rw[hEe];exact cg
 refine qSQ call229 func229 rfl { mt:=[3] } ?_;by_cases h15:n.op=15
 case' pos =>
  have hBt:=hB2 h15;subst hBt
 case' neg =>
  have hBt:=hB3 h15;subst hBt
 all_goals
  simp[go_sem,h15,hks,qm];refine qg.seg [0,1,2,3,4,5,6,7,8,9,10,11,12,13] [(0,0,[]),(1,0,[]),(2,0,[]),(3,0,[]),(4,0,[]),(5,0,[]),(6,1,[]),(7,0,[]),(8,0,[]),(9,0,[]),(10,2,[0,3,5]),(11,2,[0,3,5]),(12,1,[]),(13,1,[])] (by kernel_rfl) (by kernel_rfl) (by simp[go_sem]) ?_;simp[go_sem,h15,hks,qm];refine qe.pure ca w1 ?_;simp[go_sem,qh,tk,pc,hks,qm];rw[if_pos (qD _)];generalize hP:putCells _ 0 (aI S.1 :: hB S.2)=P;have hP2:P=aI S.1 :: hB S.2:=by rw[<-hP];exact pc (aI 0) _ (fun _=>false) _
  subst hP2;clear hP;simp[go_sem,qh,tk,pc]
 all_goals
  cases X with
  |error e =>
   have he:=herr e (qs _) rfl;have he0:¬e.1=0:=by omega
   have hEe:E=e:=by rw[<-hE];simp only[yI];rw[hX];rfl
   subst hEe;clear hE;simp[go_sem,dgOf,he0];refine qg.float [] [0,1] [(2,true),(3,false)] (by kernel_rfl) (by kernel_rfl) (by kernel_rfl) ?_;simp[go_sem,dgOf,he0];exact .hf _ (zM zR E)
  |ok ko =>
   obtain⟨q,rfl,hq⟩:=hok ko (qs _) wa hs rfl hka;have hSq:=hS hka q rfl;subst hSq;have haq:(qo q).1=q.ar:=rfl;by_cases har:q.ar=1
   .have har':(qo q).1=1:=haq.trans har
    obtain⟨S2,cg⟩:=ihg2 q hq har rfl;have hbs:YJ (.ok (some q))=qo q:=if_pos har;rw[hbs];have henv:envS ((n.name,q) :: s)=envS s++[(n.name,qo q)]:=by simp[envS]
    rw[henv]at cg;generalize qo q=Q at *
    obtain⟨qa,qf⟩:=Q;have har'':qa=1:=har';subst har'';simp[go_sem,dgOf];refine qg.seg [0,1,2,4,5,6,7,8,10,11,12,13,3,9,14,15,16,17,18,19,20,21] [(0,0,[]),(1,0,[]),(2,0,[]),(4,0,[]),(5,0,[]),(6,0,[]),(7,0,[]),(8,0,[]),(10,0,[]),(11,0,[]),(12,0,[]),(13,0,[]),(3,1,[0,5,6,11,13]),(9,1,[0,11,13]),(14,1,[]),(15,0,[]),(16,0,[]),(17,0,[]),(18,2,[0,5,6,11,13]),(19,2,[0,5,6,11,13]),(20,1,[]),(21,1,[])] (by kernel_rfl) (by kernel_rfl) (by simp[go_sem]) ?_;simp[go_sem,dgOf,qh,tk,pc,hks,qm];rw[if_pos (qD _)];generalize hC:putCells _ 1 _=C;have hC2:C=cVr (n.name,(1,qf)):=by rw[<-hC];exact pcV n.name (1,qf)
    subst hC2;clear hC;have hcl:(cVr (n.name,((1:Int),qf))).length=66:=by simp[qh]
    have hco:=WX (n.name,((1:Int),qf));generalize hV:cVr (n.name,((1:Int),qf))=V at *
    simp[go_sem,dgOf,qh,tk,pc,hks,qm,hcl];rw[if_pos hco];simp[go_sem,dgOf,qh,tk,pc,hks,qm,hcl];refine WZ (lo:=5) (xs:=[]) (ys:=envS s) (OwnF.nil (by simp)) (by simp[qI]) (by simp[VA];omega) fun av1 m1 ho1 hm1=>?_
    have k0:=hm1 0 (by omega);have k1:=hm1 1 (by omega);have k2:=hm1 2 (by omega);have k3:=hm1 3 (by omega);have k4:=hm1 4 (by omega);simp at k0 k1 k2 k3 k4;simp[go_sem,dgOf,qh,tk,pc,hks,qm,k0,k1,k2,k3,k4];refine WZ (xs:=[]++envS s) (ys:=[(n.name,(1,qf))]) ho1 (by simp[qI,hV]) (by simp[VA];omega) fun av2 m2 ho2 hm2=>?_
    rw[yZ]at ho2;have hml:=ho2.2.2;replace k0:=(hm2 0 (by omega)).trans k0;replace k1:=(hm2 1 (by omega)).trans k1;replace k2:=(hm2 2 (by omega)).trans k2;replace k3:=(hm2 3 (by omega)).trans k3;replace k4:=(hm2 4 (by omega)).trans k4;have hpush:∀(l:List Cell) (i:Nat),i<m2.length->(m2++l)[i]?=m2[i]?:=fun l i hi=>qr hi
    have g0:=(qk.1 k0).2;have g1:=(qk.1 k1).2;have g2:=(qk.1 k2).2;have g3:=(qk.1 k3).2;simp[go_sem,dgOf,qh,tk,pc,hks,qm,k0,k1,k2,k3,k4];refine qe.lend (args':=[eVw c _,lVr (envS s++[(n.name,(1,qf))]),eNd g]) cg ⟨.hf _ (gY c _),rdVr ho2,.hf _ (qH g),trivial⟩ (qh8 S2 _) ?_;have p0:=fun l=>(hpush l 0 (by omega)).trans k0
    have p1:=fun l=>(hpush l 1 (by omega)).trans k1
    have p2:=fun l=>(hpush l 2 (by omega)).trans k2
    have p3:=fun l=>(hpush l 3 (by omega)).trans k3
    have p4:=fun l=>(hpush l 4 (by omega)).trans k4
    have hl0:0<m2.length:=by omega
    have hl3:3<m2.length:=by omega
    simp[go_sem,dgOf,qh,tk,pc,hks,qm,k0,k1,k2,k3,k4,g0,g1,g2,g3,hl0,hl3,p0,p1,p2,p3,p4];rw[if_pos (qD _)];generalize hP:putCells _ 0 (cRS S2)=P;have hP2:P=cRS S2:=by rw[<-hP];exact pc (aI 0) _ (fun _=>false) _
    subst hP2;clear hP;simp[go_sem,dgOf,qh,tk,pc,hks,qm,k0,k1,k2,k3,k4,g0,g1,g2,g3,hl0,hl3,p0,p1,p2,p3,p4];obtain⟨rr,hrr⟩:=five k0 k1 k2 k3 k4;have hrl:m2.length=rr.length+5:=by rw[hrr];rfl
    clear g0 g1 g2 g3 p0 p1 p2 p3 p4 hpush ho2 hm2 k0 k1 k2 k3 k4 hml hl0 hl3;refine qg.seg [0,1,2,3] [(0,0,[]),(1,0,[]),(2,1,[1]),(3,1,[])] (by kernel_rfl) (by kernel_rfl) (by simp[go_sem]) ?_;simp[go_sem,dgOf,qh,tk,pc,hks,qm,hrr];rw[if_pos (qD _)];generalize hP:putCells _ 0 (aI 1 :: hB qf)=P;have hP2:P=aI 1 :: hB qf:=by rw[<-hP];exact pc (aI 0) (aI 1) (fun _=>false) qf
    subst hP2;clear hP;simp[go_sem,dgOf,qh,tk,pc,hks,qm,hrr];exact .hf _ (zM (1,qf) E)
   .have har':¬(qo q).1=1:=fun e=>har (haq.symm.trans e)
    have hbs:YJ (.ok (some q))=zR:=if_neg har;rw[hbs];have hEe:E=(42,n.pos):=by
     rw[<-hE];simp only[yI];rw[hX];simp only;rw[if_neg har];rfl
    subst hEe;clear hE;generalize qo q=Q at *
    simp[go_sem,dgOf,har'];refine qg.float [] [0,1,2,3] [(4,true),(5,false)] (by kernel_rfl) (by kernel_rfl) (by kernel_rfl) ?_;simp[go_sem,dgOf];exact .hf _ (zM zR (42,n.pos))
theorem qiA(ts:TS)(ok:okTS ts)(n:Nd)(l:List (Option Kd))(e1:n.op≠1)(e15:n.op≠15)
  (h1:n.op=5\/n.op=11\/n.op=12\/n.op=13->∃ a,l=[some a]/\okKd ts.sorts.length a)
  (h2:n.op=6\/n.op=14\/n.op=7\/n.op=8\/n.op=32\/n.op=33\/n.op=9\/n.op=10->∃ a b,l=[some a,some b]/\okKd ts.sorts.length a/\okKd ts.sorts.length b) :
  ∃ S b,(∀ L:List RS,((n.op=5\/n.op=11\/n.op=12\/n.op=13)\/(n.op=6\/n.op=14\/n.op=7\/n.op=8\/n.op=32\/n.op=33\/n.op=9\/n.op=10)->L=l.map setO)->prC ts n L S b)/\ApE n.op (yi ts.sorts.length n.op n.n n.pos l) S b:=by
 by_cases hr:(n.op=5\/n.op=11\/n.op=12\/n.op=13)\/(n.op=6\/n.op=14\/n.op=7\/n.op=8\/n.op=32\/n.op=33\/n.op=9\/n.op=10)
 .obtain ⟨S,b,c,a⟩:=qh5 ts ok n l (l.map setO) e1 e15 (fun h=>by obtain⟨a,rfl,ha⟩:=h1 h;exact⟨a,rfl,rfl,ha⟩) (fun h=>by obtain⟨a,b,rfl,ha,hb⟩:=h2 h;exact⟨a,b,rfl,rfl,ha,hb⟩)
  exact⟨S,b,fun L hL=>by rw[hL hr];exact c,a⟩
 by_cases o2:n.op=2
 .refine ⟨qo ⟨n.n,[]⟩,true,fun L _=>gW (gT n.n) (ap2 ts n L o2),?_⟩
  unfold yi;rw[if_pos o2];exact⟨rfl,fun _=>⟨_,rfl,rfl⟩⟩
 by_cases o3:n.op=3
 .refine ⟨_,true,fun L _=>ap3 ts ok n L o3,?_⟩
  unfold yi;rw[if_neg o2,if_pos o3];exact⟨rfl,fun _=>⟨_,rfl,rfl⟩⟩
 by_cases o4:n.op=4
 .refine ⟨_,true,fun L _=>ap4 ts ok n L o4,?_⟩
  unfold yi;rw[if_neg o2,if_neg o3,if_pos o4];exact⟨rfl,fun _=>⟨_,rfl,rfl⟩⟩
 refine⟨zR,true,fun L _=>apO ts n L o2 o3 o4 (by omega) (by omega) (by omega) (by omega) (by omega) (by omega) (by omega) (by omega) (by omega) (by omega) (by omega) (by omega),?_⟩;rw[Wa o2 o3 o4 (by omega) (by omega) (by omega) (by omega) (by omega) (by omega) (by omega) (by omega) (by omega) (by omega) (by omega) (by omega)];refine⟨rfl,fun hk=>?_⟩;have:=Wc hk;omega
def resS:Res->RS
 | .ok (some k)=>qo k
 |_=>zR
theorem qiB(R:Res):endR zR R = .tup [eRS (resS R),eDg (dgOf R)]:=by
 cases R with
 |error e=>rfl
 |ok k=>cases k<;>rfl
end QR
namespace QS
open YZ YF Y9 Y10 Y1 Y2 Y13 P1 P2 QE QF QI QJ QL QN PG QO QR
theorem VB(c:Ck)(op:Int)(nm:ByteArray):yy c op nm=(z7 op||(decide (op=47)&&tpB c nm)):=rfl
theorem qiC{ns:Nat}{op n pos:Int}{l:List (Option Kd)}{e:Dg}(h:yi ns op n pos l = .error e):e=(42,pos):=by
 unfold yi at h
 repeat' split at h
 all_goals first
  | (cases h;done)
  | (cases h;rfl)
theorem wkTP(c:Ck)(nm:ByteArray):WKs [eTS c.ts,lBo c.timed,aI c.calls,aS nm] [eTS c.ts,lBo c.timed,aI c.calls,aS nm] := .cons (.hf (zh _)) (.cons (.hf (Yz _)) (.cons (.hf (HF.sc _)) (.cons (.hf (HF.sc _)) .nil)))
theorem wk1I(k:Int):WKs [aI k] [aI k] := .cons (.hf (HF.sc _)) .nil
theorem ZD(s:RS)(b:Bool):FL (.tup [eRS s,aB b]):=FL.tup fun x hx=>by
 rcases qz.1 hx with rfl|hx
 .exact FL.agg fun c hc=>by
   rcases qz.1 hc with rfl|hc
   .exact FL.sc _
   .obtain ⟨j,_,rfl⟩:=qq.1 hc
    exact FL.sc _
 .rw [qY]at hx;subst hx;exact FL.sc _
theorem qiD(c:Ck)(hc:okCk c)(s:Scp)(n:Nd)(ht:yy c n.op n.name=true):ExR c s true n:=by
 refine⟨zR,?_,fun _ q h=>?_⟩
 case refine_2=>rw[vC,if_pos (by simp[ht])]at h;cases h
 have hx:exam c s true n = .error (46,n.pos):=by rw[vC,if_pos (by simp[ht])]
 rw[hx];rw[VB]at ht;refine qSQ call196 func196 rfl { mt:=[3] } ?_;have ct:=vy n.op;have cp:=vW c hc n.name;simp[go_sem];refine qe.pure ct (wk1I _) ?_;cases hT:z7 n.op with
 |true =>
  simp[go_sem];refine qg.float [] [0,1,2,3] [(4,true),(5,false)] (by kernel_rfl) (by kernel_rfl) (by kernel_rfl) ?_;simp[go_sem,dgOf];exact .hf _ (zM zR (46,n.pos))
 |false =>
  rw[hT,Bool.false_or,qA]at ht;obtain⟨h47,hB⟩:=ht;have h47:n.op=47:=by simpa using h47
  simp[go_sem,h47];refine qe.pure cp (wkTP c n.name) ?_;rw[hB];simp[go_sem];refine qg.float [] [0,1,2,3] [(4,true),(5,false)] (by kernel_rfl) (by kernel_rfl) (by kernel_rfl) ?_;simp[go_sem,dgOf];exact .hf _ (zM zR (46,n.pos))
theorem qiE(c:Ck)(hc:okCk c)(s:Scp)(hsl:s.length<=100000)(inn:Bool)(n:Nd)(h1:n.op=1):ExR c s inn n:=by
 have hx:exam c s inn n=yU c s n.name n.pos:=by
  rw[vC,VB,h1,show z7 1=false from rfl];simp
 refine⟨resS (yU c s n.name n.pos),?_,fun _ q h=>by rw[hx]at h;rw[h];rfl⟩;rw[hx];have cn:=U8 c hc inn s n hsl;rw[qiB]at cn;generalize resS (yU c s n.name n.pos)=S at *
 generalize dgOf (yU c s n.name n.pos)=D at *
 refine qSQ call196 func196 rfl { mt:=[3] } ?_;have ct:=vy n.op;have cp:=vW c hc n.name;have hT:z7 n.op=false:=by rw[h1];rfl
 rw[hT]at ct;have wn:=wkE c inn (envS s) n;cases inn
 case' true =>
  simp[go_sem];refine qe.pure ct (wk1I _) ?_
 all_goals
  simp[go_sem,h1];refine qe.pure cn wn ?_;simp[go_sem,qh,QE.tk,pc];rw[if_pos (qD _)];generalize hP:putCells _ 0 (aI S.1 :: hB S.2)=P;have hP2:P=aI S.1 :: hB S.2:=by rw[<-hP];exact pc (aI 0) _ (fun _=>false) _
  subst hP2;clear hP;simp[go_sem,qh,QE.tk,pc];exact .hf _ (zM S D)
theorem qiF(c:Ck)(hc:okCk c)(s:Scp)(hs:ScOk c.ts.sorts.length s)(inn:Bool)(n:Nd)(hw:WfN n)(h47:n.op=47)(ht:(inn&&yy c n.op n.name)=false)(ih:∀ k,k∈n.kids->ExR c s true k):ExR c s inn n:=by
 have hx:exam c s inn n=vT c s n:=by
  rw[vC,ht,if_neg (by simp),if_neg (by omega),if_pos h47];rfl
 have cc:=qh7 c hc s hs n hw h47 ih inn;refine⟨zR,?_,fun hk=>by rw[h47]at hk;exact absurd hk (by decide)⟩;rw[hx];generalize dgOf (vT c s n)=D at *
 refine qSQ call196 func196 rfl { mt:=[3] } ?_;have ct:=vy n.op;have cp:=vW c hc n.name;have hT:z7 n.op=false:=by rw[h47];rfl
 rw[hT]at ct;have wn:=wkE c inn (envS s) n;cases inn
 case' true =>
  rw[Bool.true_and,VB,hT,h47]at ht;have hB:tpB c n.name=false:=by simpa using ht
  rw[hB]at cp;simp[go_sem];refine qe.pure ct (wk1I _) ?_;simp[go_sem,h47];refine qe.pure cp (wkTP c n.name) ?_
 all_goals
  simp[go_sem,h47];refine qe.pure cc wn ?_;simp[go_sem];exact .hf _ (zM zR D)
theorem qiG(c:Ck)(hc:okCk c)(s:Scp)(hs:ScOk c.ts.sorts.length s)(hsl:s.length<=90000)(inn:Bool)(n:Nd)(hw:WfN n)(hb:n.op=15\/n.op=45\/n.op=46)(ht:(inn&&yy c n.op n.name)=false)(ih:∀ k,k∈n.kids->∀ s',ScOk c.ts.sorts.length s'->s'.length<=s.length+1->∀ inn,ExR c s' inn k):ExR c s inn n:=by
 have hx:exam c s inn n=yI c s (inn||decide (n.op=15)) n.name n.pos n.kids:=by
  rw[vC,ht,if_neg (by simp),if_neg (by omega),if_neg (by omega),if_pos hb]
 obtain⟨a,g,hks,hka⟩:=g8 hw hb;have cb:=qh9 c hc s hs hsl n a g hw hb hks hka inn (ih a (by rw[hks];simp) s hs (by omega) _) (fun k hk har=>ih g (by rw[hks];simp) _ (fun v hv=>by
  rcases qz.1 hv with rfl|hv
  .exact ⟨hk,har⟩
  .exact hs v hv) (by simp) _)
 refine⟨YJ (exam c s (inn||decide (n.op=15)) a),?_,fun _ q h=>?_⟩
 case refine_2 =>
  rw[hx,hks]at h;simp only[yI]at h;split at h
  .cases h
  .cases h
  .rename_i k hk
   split at h
   .rename_i har
    split at h
    .cases h
    .cases h
     rw[hk];exact if_pos har
   .cases h
 rw[hx];generalize YJ (exam c s (inn||decide (n.op=15)) a)=S at *
 generalize dgOf (yI c s (inn||decide (n.op=15)) n.name n.pos n.kids)=D at *
 refine qSQ call196 func196 rfl { mt:=[3] } ?_;have ct:=vy n.op;have cp:=vW c hc n.name;have h47:¬n.op=47:=by omega
 have hT:z7 n.op=false:=by unfold z7;rcases hb with h|h|h<;>rw[h]<;>decide
 rw[hT]at ct;have wn:=wkE c inn (envS s) n;rcases hb with h|h|h
 all_goals
  rw[h]at ct;cases inn
 all_goals
  simp[go_sem,h]
  try (refine qe.pure ct (wk1I _) ?_)
  try simp[go_sem,h]
  refine qe.pure cb wn ?_;simp[go_sem,qh,QE.tk,pc];rw[if_pos (qD _)];generalize hP:putCells _ 0 (aI S.1 :: hB S.2)=P;have hP2:P=aI S.1 :: hB S.2:=by rw[<-hP];exact pc (aI 0) _ (fun _=>false) _
  subst hP2;clear hP;simp[go_sem,qh,QE.tk,pc];exact .hf _ (zM S D)
def seqL(X:Nd->Res):List Nd->Except Dg (List (Option Kd))
 | [] => .ok []
 |k :: ks=>match X k with
  | .error e => .error e
  | .ok a=>match seqL X ks with
   | .error e => .error e
   | .ok l => .ok (a :: l)
theorem g9(c:Ck)(s:Scp)(B:Bool):∀ ks:List Nd,zo c s B ks=seqL (exam c s B) ks
 | []=>by simp only[zo,seqL]
 |k :: ks=>by simp only[zo,seqL];rw[g9 c s B ks];cases exam c s B k with
  |error e=>rfl
  |ok a=>cases seqL (exam c s B) ks<;>rfl
theorem three{α:Type}{l:List α}{a b c:α}(h0:l[0]?=some a)(h1:l[1]?=some b)(h2:l[2]?=some c):∃ r,l=a :: b :: c :: r:=by
 match l,h0,h1,h2 with
 |_ :: _ :: _ :: r,h0,h1,h2 =>
  simp at h0 h1 h2;exact⟨r,by rw[h0,h1,h2]⟩
theorem ZE{n:Nd}(hw:WfN n)(h:(n.op=5\/n.op=11\/n.op=12\/n.op=13)\/(n.op=6\/n.op=14\/n.op=7\/n.op=8\/n.op=32\/n.op=33\/n.op=9\/n.op=10)):∀ x,x∈n.kids->kd x.op=101:=by
 have hs:=hw.shape;intro x hx;have hm:kd x.op∈n.kids.map fun k=>kd k.op:=qq.2 ⟨x,hx,rfl⟩
 rcases h with h|h
 .unfold shp at hs
  rw[if_neg (by omega),if_pos (by omega)]at hs;simp only[qp]at hs;rw[<-hs]at hm;simpa using hm
 .unfold shp at hs
  rw[if_neg (by omega),if_neg (by omega),if_pos (by omega)]at hs;simp only[qp]at hs;rw[<-hs]at hm;simpa using hm
theorem qiH(c:Ck)(hc:okCk c)(s:Scp)(n:Nd)(B:Bool)(X:Nd->Res)(S:RS)(D:Dg)(h1:¬n.op=1)(h47:¬n.op=47)(hb:¬(n.op=15\/n.op=45\/n.op=46))(hw:WfN n)(hkl:n.kids.length<=401)(hT:z7 n.op=false)(h12:n.op=12)(h13:¬n.op=13)(hBt:B=true)
  (hX1:∀ k,k∈n.kids->∃ S,qj qc 196 [eVw c B,lVr (envS s),eNd k] (.tup [eRS S,eDg (dgOf (X k))])/\(kd k.op=101->∀ q,X k = .ok (some q)->S=qo q))
  (hXok:∀ k a,k∈n.kids->X k = .ok a->kd k.op=101->∃ q,a=some q/\okKd c.ts.sorts.length q)
  (hXerr:∀ k e,X k = .error e->40<=e.1)
  (hfe:∀ e,seqL X n.kids = .error e->S=zR/\D=e)
  (hfo:∀ l,seqL X n.kids = .ok l->∃ S' b,(∀ L:List RS,((n.op=5\/n.op=11\/n.op=12\/n.op=13)\/(n.op=6\/n.op=14\/n.op=7\/n.op=8\/n.op=32\/n.op=33\/n.op=9\/n.op=10)->L=l.map setO)->prC c.ts n L S' b)/\(b=true->S=S'/\D=(0,0))/\(b=false->S=zR/\D=(42,n.pos))) :
  qj qc 196 [eVw c true,lVr (envS s),eNd n] (.tup [eRS S,eDg D]):=by
 simp only[not_or]at hb;obtain⟨b1,b2,b3⟩:=hb;refine qSQ call196 func196 rfl { mt:=[3] } ?_;have ct:=vy n.op;have cp:=vW c hc n.name;rw[hT]at ct;simp[go_sem];refine qe.pure ct (wk1I _) ?_;simp[go_sem,h1,h47,b1,b2,b3];simp[go_sem,h12];refine qn.upK n.kids.length (fun k st=>∃(acc:List (Option Kd)) (L:List RS),acc.length=k/\L.length=k/\st.tm 1=lVr (envS s)/\st.tm 3 = .ptr 0 0/\st.tm 5 = .ip (cNd n)/\st.tm 6 = .ptr 1 0/\st.tm 7 = .ptr 2 0/\st.tm 9=aI k/\st.mu[0]?=some (.arr (cVw c B))/\st.mu[1]?=some (.arr (aI 0 :: hB fun _=>false))/\st.mu[2]?=some (.arr [aI 0,aI 0])/\OwnF 3 st.mu 65 (st.tm 8) (L.map cRS)/\(∀(i:Nat) x,n.kids[i]?=some x->i<k->kd x.op=101->∃ q,acc[i]?=some (some q)/\L[i]?=some (qo q))/\seqL X n.kids=(match seqL X (n.kids.drop k) with | .error e => .error e | .ok l => .ok (acc++l))) ?_ ?_
 .refine ⟨[],[],rfl,rfl,by simp[go_sem],by simp[go_sem],by simp[go_sem],by simp[go_sem],by simp[go_sem],by simp[go_sem],by rw[hBt];simp[go_sem],by simp[go_sem];rfl,by simp[go_sem],by simp[go_sem];exact OwnF.nil (by simp),fun i x _ h=>absurd h (by omega),?_⟩
  simp only[List.drop_zero,yZ];cases seqL X n.kids<;>rfl
 rintro k st hk ⟨acc,L,hal,hll,e1,e3,e5,e6,e7,e9,m0,m1,m2,ho,hrel,hE⟩;generalize h8:st.tm 8=av at *
 by_cases hlt:k<n.kids.length
 .have w1:ql.wrap ((k:Int)+1)=(k:Int)+1:=qi (by omega) (by omega)
  obtain⟨Sk,ck,hk1⟩:=hX1 n.kids[k] (qw hlt);rw[zi hlt]at hE;simp only[seqL]at hE;simp[go_sem,e1,e3,e5,e6,e7,e9,h8,hlt,qm];refine qg.seg [0,1,2,3,4,5,6,7,8,9,10,11,12,13,14] [(0,0,[]),(1,0,[]),(2,0,[]),(3,0,[]),(4,0,[]),(5,0,[]),(6,0,[]),(7,1,[]),(8,0,[]),(9,0,[]),(10,0,[]),(11,2,[0,3,6]),(12,2,[0,3,6]),(13,1,[]),(14,1,[])] (by kernel_rfl) (by kernel_rfl) (by simp[go_sem]) ?_;have hml:2<st.mu.length:=(qk.1 m2).1;have hpush:∀(l:List Cell) (i:Nat),i<st.mu.length->(st.mu++l)[i]?=st.mu[i]?:=fun l i hi=>qr hi
  have p0:=fun l=>(hpush l 0 (by omega)).trans m0
  have p1:=fun l=>(hpush l 1 (by omega)).trans m1
  have p2:=fun l=>(hpush l 2 (by omega)).trans m2
  have g0:=(qk.1 m0).2;have g1:=(qk.1 m1).2;have g2:=(qk.1 m2).2;have hl0:0<st.mu.length:=by omega
  have hl1:1<st.mu.length:=by omega
  simp[go_sem,e1,e3,e5,e6,e7,e9,h8,hlt,qm,m0];refine qe.pure ck (wkE c _ _ _) ?_;cases hx:X n.kids[k] with
  |error e =>
   have he:=hXerr _ _ hx;have he0:¬e.1=0:=by omega
   rw[hx]at hE;have hE:seqL X n.kids = .error e:=hE;obtain⟨hS0,hD0⟩:=hfe e hE;rw[hS0,hD0];simp[go_sem,e1,e3,e5,e6,e7,e9,h8,hlt,qm,m0,g0,p0,hl0,qh,QE.tk,pc,he0,dgOf];rw[if_pos (qD _)];generalize hP:putCells _ 0 (cRS Sk)=P;have hP2:P=cRS Sk:=by rw[<-hP];exact pc (aI 0) _ (fun _=>false) _
   subst hP2;clear hP;simp[go_sem,e1,e3,e5,e6,e7,e9,h8,hlt,qm,m0,g0,p0,hl0,qh,QE.tk,pc,he0,dgOf];refine qg.seg [0,1,2,3] [(0,0,[]),(1,0,[]),(2,1,[1]),(3,1,[])] (by kernel_rfl) (by kernel_rfl) (by simp[go_sem]) ?_;simp[go_sem,e1,e3,e5,e6,e7,e9,h8,hlt,qm,m0,g0,p0,hl0,qh,QE.tk,pc,he0,dgOf,p1,p2,g1,g2,hl1,hml];exact .hf _ (zM zR e)
  |ok a =>
   rw[hx]at hE;simp only at hE;simp[go_sem,e1,e3,e5,e6,e7,e9,h8,hlt,qm,m0,g0,p0,hl0,qh,QE.tk,pc,dgOf];rw[if_pos (qD _)];generalize hP:putCells _ 0 (cRS Sk)=P;have hP2:P=cRS Sk:=by rw[<-hP];exact pc (aI 0) _ (fun _=>false) _
   subst hP2;clear hP;simp[go_sem,e1,e3,e5,e6,e7,e9,h8,hlt,qm,m0,g0,p0,hl0,qh,QE.tk,pc,dgOf];rw[if_pos (qD _)];simp[go_sem,e1,e3,e5,e6,e7,e9,h8,hlt];refine ZC (lo:=3) (xs:=L) (ys:=[Sk]) ⟨by simpa using jD (jD ho.1 _) _,ho.2.1,by have:=ho.2.2;simp;omega⟩ (by simp[qI]) (by simp;omega) fun av' m' ho' hm'=>?_
   simp[go_sem,e1,e3,e5,e6,e7,e9,h8,hlt,w1];refine Keep.mk' ⟨acc++[a],L++[Sk],by simp[hal],by simp[hll],by simp[go_sem,e1],by simp[go_sem,e3],by simp[go_sem,e5],by simp[go_sem,e6],by simp[go_sem,e7],by simp[go_sem],?_,?_,?_,by simpa[go_sem] using ho',fun i x hi hik hkd=>?_,?_⟩
   .simp only[qM];exact(hm' 0 (by omega)).trans (p0 _)
   .simp only[qM];exact(hm' 1 (by omega)).trans (p1 _)
   .simp only[qM];exact(hm' 2 (by omega)).trans (p2 _)
   .by_cases hik2:i=k
    .subst hik2
     rw[qv hlt]at hi;cases hi;obtain⟨q,rfl,_⟩:=hXok _ a (qw hlt) hx hkd;refine⟨q,?_,?_⟩
     .rw [q6 (by omega),hal];simp
     .rw [q6 (by omega),hll];simp[hk1 hkd q hx]
    .obtain ⟨q,q1,q2⟩:=hrel i x hi (by omega) hkd
     exact⟨q,by rw[qr (by omega)];exact q1,by rw[qr (by omega)];exact q2⟩
   .rw [hE]
    cases seqL X (n.kids.drop (k+1)) with
    |error e=>rfl
    |ok l=>simp
 .have hkl':k=n.kids.length:=by omega
  subst hkl';rw[zN]at hE;have hE:seqL X n.kids = .ok acc:=by rw[hE];simp only[seqL,zl]
  obtain⟨S',b,q1,q2,q3⟩:=hfo acc hE;have hL:((n.op=5\/n.op=11\/n.op=12\/n.op=13)\/(n.op=6\/n.op=14\/n.op=7\/n.op=8\/n.op=32\/n.op=33\/n.op=9\/n.op=10))->L=acc.map setO:=fun h=>by
   have hkd:∀ x,x∈n.kids->kd x.op=101:=fun x hx=>ZE hw h x hx
   refine jr fun i=>?_
   by_cases hi:i<n.kids.length
   .obtain ⟨q,e1,e2⟩:=hrel i n.kids[i] (by simp[hi]) hi (hkd _ (qw hi))
    rw[e2,zj,e1];rfl
   .rw [zQ (by omega),zQ (by simp;omega)]
  have hp:=q1 L hL;unfold prC at hp;have hml:2<st.mu.length:=(qk.1 m2).1;have hpush:∀(l:List Cell) (i:Nat),i<st.mu.length->(st.mu++l)[i]?=st.mu[i]?:=fun l i hi=>qr hi
  obtain⟨rr,hrr⟩:=three m0 m1 m2;simp[go_sem,e1,e3,e5,e6,e7,e9,h8,qm,m0];refine qe.lend (args':=[eTS c.ts,eNd n,lRS L]) hp ⟨.hf _ (zh _),.hf _ (qH n),rdRS ho,trivial⟩ (ZD S' b) ?_;have hrl:st.mu.length=rr.length+3:=by rw[hrr];rfl
  clear m0 m1 m2 hpush ho;simp[go_sem,e1,e3,e5,e6,e7,e9,h8,qm,hrr,qh,QE.tk,pc];rw[if_pos (qD _)];generalize hP:putCells _ 0 (cRS S')=P;have hP2:P=cRS S':=by rw[<-hP];exact pc (aI 0) _ (fun _=>false) _
  subst hP2;clear hP;cases b with
  |true =>
   obtain⟨rfl,rfl⟩:=q2 rfl;simp[go_sem,e1,e3,e5,e6,e7,e9,h8,hrr,qh,QE.tk,pc];rw[if_pos (qD _)];simp[go_sem,e1,e3,e5,e6,e7,e9,h8,hrr,qh,QE.tk,pc];exact .hf _ (zM S (0,0))
  |false =>
   obtain⟨rfl,rfl⟩:=q3 rfl;simp[go_sem,e1,e3,e5,e6,e7,e9,h8,hrr,qh,QE.tk,pc];refine qg.seg [0,1,2,3,4,5] [(0,0,[]),(1,0,[]),(2,0,[]),(3,0,[]),(4,1,[2]),(5,1,[])] (by kernel_rfl) (by kernel_rfl) (by simp[go_sem]) ?_;simp[go_sem,e1,e3,e5,e6,e7,e9,h8,hrr,qh,QE.tk,pc];exact .hf _ (zM zR (42,n.pos))
theorem qiI(c:Ck)(hc:okCk c)(s:Scp)(n:Nd)(B:Bool)(X:Nd->Res)(S:RS)(D:Dg)(h1:¬n.op=1)(h47:¬n.op=47)(hb:¬(n.op=15\/n.op=45\/n.op=46))(hw:WfN n)(hkl:n.kids.length<=401)(hT:z7 n.op=false)(h12:¬n.op=12)(h13:n.op=13)(hBt:B=true)
  (hX1:∀ k,k∈n.kids->∃ S,qj qc 196 [eVw c B,lVr (envS s),eNd k] (.tup [eRS S,eDg (dgOf (X k))])/\(kd k.op=101->∀ q,X k = .ok (some q)->S=qo q))
  (hXok:∀ k a,k∈n.kids->X k = .ok a->kd k.op=101->∃ q,a=some q/\okKd c.ts.sorts.length q)
  (hXerr:∀ k e,X k = .error e->40<=e.1)
  (hfe:∀ e,seqL X n.kids = .error e->S=zR/\D=e)
  (hfo:∀ l,seqL X n.kids = .ok l->∃ S' b,(∀ L:List RS,((n.op=5\/n.op=11\/n.op=12\/n.op=13)\/(n.op=6\/n.op=14\/n.op=7\/n.op=8\/n.op=32\/n.op=33\/n.op=9\/n.op=10)->L=l.map setO)->prC c.ts n L S' b)/\(b=true->S=S'/\D=(0,0))/\(b=false->S=zR/\D=(42,n.pos))) :
  qj qc 196 [eVw c true,lVr (envS s),eNd n] (.tup [eRS S,eDg D]):=by
 simp only[not_or]at hb;obtain⟨b1,b2,b3⟩:=hb;refine qSQ call196 func196 rfl { mt:=[3] } ?_;have ct:=vy n.op;have cp:=vW c hc n.name;rw[hT]at ct;simp[go_sem];refine qe.pure ct (wk1I _) ?_;simp[go_sem,h1,h47,b1,b2,b3];simp[go_sem,h12,h13];refine qn.upK n.kids.length (fun k st=>∃(acc:List (Option Kd)) (L:List RS),acc.length=k/\L.length=k/\st.tm 1=lVr (envS s)/\st.tm 3 = .ptr 0 0/\st.tm 5 = .ip (cNd n)/\st.tm 6 = .ptr 1 0/\st.tm 7 = .ptr 2 0/\st.tm 9=aI k/\st.mu[0]?=some (.arr (cVw c B))/\st.mu[1]?=some (.arr (aI 0 :: hB fun _=>false))/\st.mu[2]?=some (.arr [aI 0,aI 0])/\OwnF 3 st.mu 65 (st.tm 8) (L.map cRS)/\(∀(i:Nat) x,n.kids[i]?=some x->i<k->kd x.op=101->∃ q,acc[i]?=some (some q)/\L[i]?=some (qo q))/\seqL X n.kids=(match seqL X (n.kids.drop k) with | .error e => .error e | .ok l => .ok (acc++l))) ?_ ?_
 .refine ⟨[],[],rfl,rfl,by simp[go_sem],by simp[go_sem],by simp[go_sem],by simp[go_sem],by simp[go_sem],by simp[go_sem],by rw[hBt];simp[go_sem],by simp[go_sem];rfl,by simp[go_sem],by simp[go_sem];exact OwnF.nil (by simp),fun i x _ h=>absurd h (by omega),?_⟩
  simp only[List.drop_zero,yZ];cases seqL X n.kids<;>rfl
 rintro k st hk ⟨acc,L,hal,hll,e1,e3,e5,e6,e7,e9,m0,m1,m2,ho,hrel,hE⟩;generalize h8:st.tm 8=av at *
 by_cases hlt:k<n.kids.length
 .have w1:ql.wrap ((k:Int)+1)=(k:Int)+1:=qi (by omega) (by omega)
  obtain⟨Sk,ck,hk1⟩:=hX1 n.kids[k] (qw hlt);rw[zi hlt]at hE;simp only[seqL]at hE;simp[go_sem,e1,e3,e5,e6,e7,e9,h8,hlt,qm];refine qg.seg [0,1,2,3,4,5,6,7,8,9,10,11,12,13,14] [(0,0,[]),(1,0,[]),(2,0,[]),(3,0,[]),(4,0,[]),(5,0,[]),(6,0,[]),(7,1,[]),(8,0,[]),(9,0,[]),(10,0,[]),(11,2,[0,3,6]),(12,2,[0,3,6]),(13,1,[]),(14,1,[])] (by kernel_rfl) (by kernel_rfl) (by simp[go_sem]) ?_;have hml:2<st.mu.length:=(qk.1 m2).1;have hpush:∀(l:List Cell) (i:Nat),i<st.mu.length->(st.mu++l)[i]?=st.mu[i]?:=fun l i hi=>qr hi
  have p0:=fun l=>(hpush l 0 (by omega)).trans m0
  have p1:=fun l=>(hpush l 1 (by omega)).trans m1
  have p2:=fun l=>(hpush l 2 (by omega)).trans m2
  have g0:=(qk.1 m0).2;have g1:=(qk.1 m1).2;have g2:=(qk.1 m2).2;have hl0:0<st.mu.length:=by omega
  have hl1:1<st.mu.length:=by omega
  simp[go_sem,e1,e3,e5,e6,e7,e9,h8,hlt,qm,m0];refine qe.pure ck (wkE c _ _ _) ?_;cases hx:X n.kids[k] with
  |error e =>
   have he:=hXerr _ _ hx;have he0:¬e.1=0:=by omega
   rw[hx]at hE;have hE:seqL X n.kids = .error e:=hE;obtain⟨hS0,hD0⟩:=hfe e hE;rw[hS0,hD0];simp[go_sem,e1,e3,e5,e6,e7,e9,h8,hlt,qm,m0,g0,p0,hl0,qh,QE.tk,pc,he0,dgOf];rw[if_pos (qD _)];generalize hP:putCells _ 0 (cRS Sk)=P;have hP2:P=cRS Sk:=by rw[<-hP];exact pc (aI 0) _ (fun _=>false) _
   subst hP2;clear hP;simp[go_sem,e1,e3,e5,e6,e7,e9,h8,hlt,qm,m0,g0,p0,hl0,qh,QE.tk,pc,he0,dgOf];refine qg.seg [0,1,2,3] [(0,0,[]),(1,0,[]),(2,1,[1]),(3,1,[])] (by kernel_rfl) (by kernel_rfl) (by simp[go_sem]) ?_;simp[go_sem,e1,e3,e5,e6,e7,e9,h8,hlt,qm,m0,g0,p0,hl0,qh,QE.tk,pc,he0,dgOf,p1,p2,g1,g2,hl1,hml];exact .hf _ (zM zR e)
  |ok a =>
   rw[hx]at hE;simp only at hE;simp[go_sem,e1,e3,e5,e6,e7,e9,h8,hlt,qm,m0,g0,p0,hl0,qh,QE.tk,pc,dgOf];rw[if_pos (qD _)];generalize hP:putCells _ 0 (cRS Sk)=P;have hP2:P=cRS Sk:=by rw[<-hP];exact pc (aI 0) _ (fun _=>false) _
   subst hP2;clear hP;simp[go_sem,e1,e3,e5,e6,e7,e9,h8,hlt,qm,m0,g0,p0,hl0,qh,QE.tk,pc,dgOf];rw[if_pos (qD _)];simp[go_sem,e1,e3,e5,e6,e7,e9,h8,hlt];refine ZC (lo:=3) (xs:=L) (ys:=[Sk]) ⟨by simpa using jD (jD ho.1 _) _,ho.2.1,by have:=ho.2.2;simp;omega⟩ (by simp[qI]) (by simp;omega) fun av' m' ho' hm'=>?_
   simp[go_sem,e1,e3,e5,e6,e7,e9,h8,hlt,w1];refine Keep.mk' ⟨acc++[a],L++[Sk],by simp[hal],by simp[hll],by simp[go_sem,e1],by simp[go_sem,e3],by simp[go_sem,e5],by simp[go_sem,e6],by simp[go_sem,e7],by simp[go_sem],?_,?_,?_,by simpa[go_sem] using ho',fun i x hi hik hkd=>?_,?_⟩
   .simp only[qM];exact(hm' 0 (by omega)).trans (p0 _)
   .simp only[qM];exact(hm' 1 (by omega)).trans (p1 _)
   .simp only[qM];exact(hm' 2 (by omega)).trans (p2 _)
   .by_cases hik2:i=k
    .subst hik2
     rw[qv hlt]at hi;cases hi;obtain⟨q,rfl,_⟩:=hXok _ a (qw hlt) hx hkd;refine⟨q,?_,?_⟩
     .rw [q6 (by omega),hal];simp
     .rw [q6 (by omega),hll];simp[hk1 hkd q hx]
    .obtain ⟨q,q1,q2⟩:=hrel i x hi (by omega) hkd
     exact⟨q,by rw[qr (by omega)];exact q1,by rw[qr (by omega)];exact q2⟩
   .rw [hE]
    cases seqL X (n.kids.drop (k+1)) with
    |error e=>rfl
    |ok l=>simp
 .have hkl':k=n.kids.length:=by omega
  subst hkl';rw[zN]at hE;have hE:seqL X n.kids = .ok acc:=by rw[hE];simp only[seqL,zl]
  obtain⟨S',b,q1,q2,q3⟩:=hfo acc hE;have hL:((n.op=5\/n.op=11\/n.op=12\/n.op=13)\/(n.op=6\/n.op=14\/n.op=7\/n.op=8\/n.op=32\/n.op=33\/n.op=9\/n.op=10))->L=acc.map setO:=fun h=>by
   have hkd:∀ x,x∈n.kids->kd x.op=101:=fun x hx=>ZE hw h x hx
   refine jr fun i=>?_
   by_cases hi:i<n.kids.length
   .obtain ⟨q,e1,e2⟩:=hrel i n.kids[i] (by simp[hi]) hi (hkd _ (qw hi))
    rw[e2,zj,e1];rfl
   .rw [zQ (by omega),zQ (by simp;omega)]
  have hp:=q1 L hL;unfold prC at hp;have hml:2<st.mu.length:=(qk.1 m2).1;have hpush:∀(l:List Cell) (i:Nat),i<st.mu.length->(st.mu++l)[i]?=st.mu[i]?:=fun l i hi=>qr hi
  obtain⟨rr,hrr⟩:=three m0 m1 m2;simp[go_sem,e1,e3,e5,e6,e7,e9,h8,qm,m0];refine qe.lend (args':=[eTS c.ts,eNd n,lRS L]) hp ⟨.hf _ (zh _),.hf _ (qH n),rdRS ho,trivial⟩ (ZD S' b) ?_;have hrl:st.mu.length=rr.length+3:=by rw[hrr];rfl
  clear m0 m1 m2 hpush ho;simp[go_sem,e1,e3,e5,e6,e7,e9,h8,qm,hrr,qh,QE.tk,pc];rw[if_pos (qD _)];generalize hP:putCells _ 0 (cRS S')=P;have hP2:P=cRS S':=by rw[<-hP];exact pc (aI 0) _ (fun _=>false) _
  subst hP2;clear hP;cases b with
  |true =>
   obtain⟨rfl,rfl⟩:=q2 rfl;simp[go_sem,e1,e3,e5,e6,e7,e9,h8,hrr,qh,QE.tk,pc];rw[if_pos (qD _)];simp[go_sem,e1,e3,e5,e6,e7,e9,h8,hrr,qh,QE.tk,pc];exact .hf _ (zM S (0,0))
  |false =>
   obtain⟨rfl,rfl⟩:=q3 rfl;simp[go_sem,e1,e3,e5,e6,e7,e9,h8,hrr,qh,QE.tk,pc];refine qg.seg [0,1,2,3,4,5] [(0,0,[]),(1,0,[]),(2,0,[]),(3,0,[]),(4,1,[2]),(5,1,[])] (by kernel_rfl) (by kernel_rfl) (by simp[go_sem]) ?_;simp[go_sem,e1,e3,e5,e6,e7,e9,h8,hrr,qh,QE.tk,pc];exact .hf _ (zM zR (42,n.pos))
theorem qiJ(c:Ck)(hc:okCk c)(s:Scp)(n:Nd)(B:Bool)(X:Nd->Res)(S:RS)(D:Dg)(h1:¬n.op=1)(h47:¬n.op=47)(hb:¬(n.op=15\/n.op=45\/n.op=46))(hw:WfN n)(hkl:n.kids.length<=401)(hT:z7 n.op=false)(h12:¬n.op=12)(h13:¬n.op=13)(hBt:B=true)
  (hX1:∀ k,k∈n.kids->∃ S,qj qc 196 [eVw c B,lVr (envS s),eNd k] (.tup [eRS S,eDg (dgOf (X k))])/\(kd k.op=101->∀ q,X k = .ok (some q)->S=qo q))
  (hXok:∀ k a,k∈n.kids->X k = .ok a->kd k.op=101->∃ q,a=some q/\okKd c.ts.sorts.length q)
  (hXerr:∀ k e,X k = .error e->40<=e.1)
  (hfe:∀ e,seqL X n.kids = .error e->S=zR/\D=e)
  (hfo:∀ l,seqL X n.kids = .ok l->∃ S' b,(∀ L:List RS,((n.op=5\/n.op=11\/n.op=12\/n.op=13)\/(n.op=6\/n.op=14\/n.op=7\/n.op=8\/n.op=32\/n.op=33\/n.op=9\/n.op=10)->L=l.map setO)->prC c.ts n L S' b)/\(b=true->S=S'/\D=(0,0))/\(b=false->S=zR/\D=(42,n.pos))) :
  qj qc 196 [eVw c true,lVr (envS s),eNd n] (.tup [eRS S,eDg D]):=by
 simp only[not_or]at hb;obtain⟨b1,b2,b3⟩:=hb;refine qSQ call196 func196 rfl { mt:=[3] } ?_;have ct:=vy n.op;have cp:=vW c hc n.name;rw[hT]at ct;simp[go_sem];refine qe.pure ct (wk1I _) ?_;simp[go_sem,h1,h47,b1,b2,b3];simp[go_sem,h12,h13];refine qn.upK n.kids.length (fun k st=>∃(acc:List (Option Kd)) (L:List RS),acc.length=k/\L.length=k/\st.tm 1=lVr (envS s)/\st.tm 3 = .ptr 0 0/\st.tm 5 = .ip (cNd n)/\st.tm 6 = .ptr 1 0/\st.tm 7 = .ptr 2 0/\st.tm 9=aI k/\st.mu[0]?=some (.arr (cVw c B))/\st.mu[1]?=some (.arr (aI 0 :: hB fun _=>false))/\st.mu[2]?=some (.arr [aI 0,aI 0])/\OwnF 3 st.mu 65 (st.tm 8) (L.map cRS)/\(∀(i:Nat) x,n.kids[i]?=some x->i<k->kd x.op=101->∃ q,acc[i]?=some (some q)/\L[i]?=some (qo q))/\seqL X n.kids=(match seqL X (n.kids.drop k) with | .error e => .error e | .ok l => .ok (acc++l))) ?_ ?_
 .refine ⟨[],[],rfl,rfl,by simp[go_sem],by simp[go_sem],by simp[go_sem],by simp[go_sem],by simp[go_sem],by simp[go_sem],by rw[hBt];simp[go_sem],by simp[go_sem];rfl,by simp[go_sem],by simp[go_sem];exact OwnF.nil (by simp),fun i x _ h=>absurd h (by omega),?_⟩
  simp only[List.drop_zero,yZ];cases seqL X n.kids<;>rfl
 rintro k st hk ⟨acc,L,hal,hll,e1,e3,e5,e6,e7,e9,m0,m1,m2,ho,hrel,hE⟩;generalize h8:st.tm 8=av at *
 by_cases hlt:k<n.kids.length
 .have w1:ql.wrap ((k:Int)+1)=(k:Int)+1:=qi (by omega) (by omega)
  obtain⟨Sk,ck,hk1⟩:=hX1 n.kids[k] (qw hlt);rw[zi hlt]at hE;simp only[seqL]at hE;simp[go_sem,e1,e3,e5,e6,e7,e9,h8,hlt,qm];refine qg.seg [0,1,2,3,4,5,6,7,8,9,10,11,12,13,14] [(0,0,[]),(1,0,[]),(2,0,[]),(3,0,[]),(4,0,[]),(5,0,[]),(6,0,[]),(7,1,[]),(8,0,[]),(9,0,[]),(10,0,[]),(11,2,[0,3,6]),(12,2,[0,3,6]),(13,1,[]),(14,1,[])] (by kernel_rfl) (by kernel_rfl) (by simp[go_sem]) ?_;have hml:2<st.mu.length:=(qk.1 m2).1;have hpush:∀(l:List Cell) (i:Nat),i<st.mu.length->(st.mu++l)[i]?=st.mu[i]?:=fun l i hi=>qr hi
  have p0:=fun l=>(hpush l 0 (by omega)).trans m0
  have p1:=fun l=>(hpush l 1 (by omega)).trans m1
  have p2:=fun l=>(hpush l 2 (by omega)).trans m2
  have g0:=(qk.1 m0).2;have g1:=(qk.1 m1).2;have g2:=(qk.1 m2).2;have hl0:0<st.mu.length:=by omega
  have hl1:1<st.mu.length:=by omega
  simp[go_sem,e1,e3,e5,e6,e7,e9,h8,hlt,qm,m0];refine qe.pure ck (wkE c _ _ _) ?_;cases hx:X n.kids[k] with
  |error e =>
   have he:=hXerr _ _ hx;have he0:¬e.1=0:=by omega
   rw[hx]at hE;have hE:seqL X n.kids = .error e:=hE;obtain⟨hS0,hD0⟩:=hfe e hE;rw[hS0,hD0];simp[go_sem,e1,e3,e5,e6,e7,e9,h8,hlt,qm,m0,g0,p0,hl0,qh,QE.tk,pc,he0,dgOf];rw[if_pos (qD _)];generalize hP:putCells _ 0 (cRS Sk)=P;have hP2:P=cRS Sk:=by rw[<-hP];exact pc (aI 0) _ (fun _=>false) _
   subst hP2;clear hP;simp[go_sem,e1,e3,e5,e6,e7,e9,h8,hlt,qm,m0,g0,p0,hl0,qh,QE.tk,pc,he0,dgOf];refine qg.seg [0,1,2,3] [(0,0,[]),(1,0,[]),(2,1,[1]),(3,1,[])] (by kernel_rfl) (by kernel_rfl) (by simp[go_sem]) ?_;simp[go_sem,e1,e3,e5,e6,e7,e9,h8,hlt,qm,m0,g0,p0,hl0,qh,QE.tk,pc,he0,dgOf,p1,p2,g1,g2,hl1,hml];exact .hf _ (zM zR e)
  |ok a =>
   rw[hx]at hE;simp only at hE;simp[go_sem,e1,e3,e5,e6,e7,e9,h8,hlt,qm,m0,g0,p0,hl0,qh,QE.tk,pc,dgOf];rw[if_pos (qD _)];generalize hP:putCells _ 0 (cRS Sk)=P;have hP2:P=cRS Sk:=by rw[<-hP];exact pc (aI 0) _ (fun _=>false) _
   subst hP2;clear hP;simp[go_sem,e1,e3,e5,e6,e7,e9,h8,hlt,qm,m0,g0,p0,hl0,qh,QE.tk,pc,dgOf];rw[if_pos (qD _)];simp[go_sem,e1,e3,e5,e6,e7,e9,h8,hlt];refine ZC (lo:=3) (xs:=L) (ys:=[Sk]) ⟨by simpa using jD (jD ho.1 _) _,ho.2.1,by have:=ho.2.2;simp;omega⟩ (by simp[qI]) (by simp;omega) fun av' m' ho' hm'=>?_
   simp[go_sem,e1,e3,e5,e6,e7,e9,h8,hlt,w1];refine Keep.mk' ⟨acc++[a],L++[Sk],by simp[hal],by simp[hll],by simp[go_sem,e1],by simp[go_sem,e3],by simp[go_sem,e5],by simp[go_sem,e6],by simp[go_sem,e7],by simp[go_sem],?_,?_,?_,by simpa[go_sem] using ho',fun i x hi hik hkd=>?_,?_⟩
   .simp only[qM];exact(hm' 0 (by omega)).trans (p0 _)
   .simp only[qM];exact(hm' 1 (by omega)).trans (p1 _)
   .simp only[qM];exact(hm' 2 (by omega)).trans (p2 _)
   .by_cases hik2:i=k
    .subst hik2
     rw[qv hlt]at hi;cases hi;obtain⟨q,rfl,_⟩:=hXok _ a (qw hlt) hx hkd;refine⟨q,?_,?_⟩
     .rw [q6 (by omega),hal];simp
     .rw [q6 (by omega),hll];simp[hk1 hkd q hx]
    .obtain ⟨q,q1,q2⟩:=hrel i x hi (by omega) hkd
     exact⟨q,by rw[qr (by omega)];exact q1,by rw[qr (by omega)];exact q2⟩
   .rw [hE]
    cases seqL X (n.kids.drop (k+1)) with
    |error e=>rfl
    |ok l=>simp
 .have hkl':k=n.kids.length:=by omega
  subst hkl';rw[zN]at hE;have hE:seqL X n.kids = .ok acc:=by rw[hE];simp only[seqL,zl]
  obtain⟨S',b,q1,q2,q3⟩:=hfo acc hE;have hL:((n.op=5\/n.op=11\/n.op=12\/n.op=13)\/(n.op=6\/n.op=14\/n.op=7\/n.op=8\/n.op=32\/n.op=33\/n.op=9\/n.op=10))->L=acc.map setO:=fun h=>by
   have hkd:∀ x,x∈n.kids->kd x.op=101:=fun x hx=>ZE hw h x hx
   refine jr fun i=>?_
   by_cases hi:i<n.kids.length
   .obtain ⟨q,e1,e2⟩:=hrel i n.kids[i] (by simp[hi]) hi (hkd _ (qw hi))
    rw[e2,zj,e1];rfl
   .rw [zQ (by omega),zQ (by simp;omega)]
  have hp:=q1 L hL;unfold prC at hp;have hml:2<st.mu.length:=(qk.1 m2).1;have hpush:∀(l:List Cell) (i:Nat),i<st.mu.length->(st.mu++l)[i]?=st.mu[i]?:=fun l i hi=>qr hi
  obtain⟨rr,hrr⟩:=three m0 m1 m2;simp[go_sem,e1,e3,e5,e6,e7,e9,h8,qm,m0];refine qe.lend (args':=[eTS c.ts,eNd n,lRS L]) hp ⟨.hf _ (zh _),.hf _ (qH n),rdRS ho,trivial⟩ (ZD S' b) ?_;have hrl:st.mu.length=rr.length+3:=by rw[hrr];rfl
  clear m0 m1 m2 hpush ho;simp[go_sem,e1,e3,e5,e6,e7,e9,h8,qm,hrr,qh,QE.tk,pc];rw[if_pos (qD _)];generalize hP:putCells _ 0 (cRS S')=P;have hP2:P=cRS S':=by rw[<-hP];exact pc (aI 0) _ (fun _=>false) _
  subst hP2;clear hP;cases b with
  |true =>
   obtain⟨rfl,rfl⟩:=q2 rfl;simp[go_sem,e1,e3,e5,e6,e7,e9,h8,hrr,qh,QE.tk,pc];rw[if_pos (qD _)];simp[go_sem,e1,e3,e5,e6,e7,e9,h8,hrr,qh,QE.tk,pc];exact .hf _ (zM S (0,0))
  |false =>
   obtain⟨rfl,rfl⟩:=q3 rfl;simp[go_sem,e1,e3,e5,e6,e7,e9,h8,hrr,qh,QE.tk,pc];refine qg.seg [0,1,2,3,4,5] [(0,0,[]),(1,0,[]),(2,0,[]),(3,0,[]),(4,1,[2]),(5,1,[])] (by kernel_rfl) (by kernel_rfl) (by simp[go_sem]) ?_;simp[go_sem,e1,e3,e5,e6,e7,e9,h8,hrr,qh,QE.tk,pc];exact .hf _ (zM zR (42,n.pos))
theorem qiK(c:Ck)(hc:okCk c)(s:Scp)(n:Nd)(B:Bool)(X:Nd->Res)(S:RS)(D:Dg)(h1:¬n.op=1)(h47:¬n.op=47)(hb:¬(n.op=15\/n.op=45\/n.op=46))(hw:WfN n)(hkl:n.kids.length<=401)(hT:True)(h12:n.op=12)(h13:¬n.op=13)(hBt:B=true)
  (hX1:∀ k,k∈n.kids->∃ S,qj qc 196 [eVw c B,lVr (envS s),eNd k] (.tup [eRS S,eDg (dgOf (X k))])/\(kd k.op=101->∀ q,X k = .ok (some q)->S=qo q))
  (hXok:∀ k a,k∈n.kids->X k = .ok a->kd k.op=101->∃ q,a=some q/\okKd c.ts.sorts.length q)
  (hXerr:∀ k e,X k = .error e->40<=e.1)
  (hfe:∀ e,seqL X n.kids = .error e->S=zR/\D=e)
  (hfo:∀ l,seqL X n.kids = .ok l->∃ S' b,(∀ L:List RS,((n.op=5\/n.op=11\/n.op=12\/n.op=13)\/(n.op=6\/n.op=14\/n.op=7\/n.op=8\/n.op=32\/n.op=33\/n.op=9\/n.op=10)->L=l.map setO)->prC c.ts n L S' b)/\(b=true->S=S'/\D=(0,0))/\(b=false->S=zR/\D=(42,n.pos))) :
  qj qc 196 [eVw c false,lVr (envS s),eNd n] (.tup [eRS S,eDg D]):=by
 simp only[not_or]at hb;obtain⟨b1,b2,b3⟩:=hb;refine qSQ call196 func196 rfl { mt:=[3] } ?_;have ct:=vy n.op;have cp:=vW c hc n.name;simp[go_sem,h1,h47,b1,b2,b3];simp[go_sem,h12];refine qn.upK n.kids.length (fun k st=>∃(acc:List (Option Kd)) (L:List RS),acc.length=k/\L.length=k/\st.tm 1=lVr (envS s)/\st.tm 3 = .ptr 0 0/\st.tm 5 = .ip (cNd n)/\st.tm 6 = .ptr 1 0/\st.tm 7 = .ptr 2 0/\st.tm 9=aI k/\st.mu[0]?=some (.arr (cVw c B))/\st.mu[1]?=some (.arr (aI 0 :: hB fun _=>false))/\st.mu[2]?=some (.arr [aI 0,aI 0])/\OwnF 3 st.mu 65 (st.tm 8) (L.map cRS)/\(∀(i:Nat) x,n.kids[i]?=some x->i<k->kd x.op=101->∃ q,acc[i]?=some (some q)/\L[i]?=some (qo q))/\seqL X n.kids=(match seqL X (n.kids.drop k) with | .error e => .error e | .ok l => .ok (acc++l))) ?_ ?_
 .refine ⟨[],[],rfl,rfl,by simp[go_sem],by simp[go_sem],by simp[go_sem],by simp[go_sem],by simp[go_sem],by simp[go_sem],by rw[hBt];simp[go_sem],by simp[go_sem];rfl,by simp[go_sem],by simp[go_sem];exact OwnF.nil (by simp),fun i x _ h=>absurd h (by omega),?_⟩
  simp only[List.drop_zero,yZ];cases seqL X n.kids<;>rfl
 rintro k st hk ⟨acc,L,hal,hll,e1,e3,e5,e6,e7,e9,m0,m1,m2,ho,hrel,hE⟩;generalize h8:st.tm 8=av at *
 by_cases hlt:k<n.kids.length
 .have w1:ql.wrap ((k:Int)+1)=(k:Int)+1:=qi (by omega) (by omega)
  obtain⟨Sk,ck,hk1⟩:=hX1 n.kids[k] (qw hlt);rw[zi hlt]at hE;simp only[seqL]at hE;simp[go_sem,e1,e3,e5,e6,e7,e9,h8,hlt,qm];refine qg.seg [0,1,2,3,4,5,6,7,8,9,10,11,12,13,14] [(0,0,[]),(1,0,[]),(2,0,[]),(3,0,[]),(4,0,[]),(5,0,[]),(6,0,[]),(7,1,[]),(8,0,[]),(9,0,[]),(10,0,[]),(11,2,[0,3,6]),(12,2,[0,3,6]),(13,1,[]),(14,1,[])] (by kernel_rfl) (by kernel_rfl) (by simp[go_sem]) ?_;have hml:2<st.mu.length:=(qk.1 m2).1;have hpush:∀(l:List Cell) (i:Nat),i<st.mu.length->(st.mu++l)[i]?=st.mu[i]?:=fun l i hi=>qr hi
  have p0:=fun l=>(hpush l 0 (by omega)).trans m0
  have p1:=fun l=>(hpush l 1 (by omega)).trans m1
  have p2:=fun l=>(hpush l 2 (by omega)).trans m2
  have g0:=(qk.1 m0).2;have g1:=(qk.1 m1).2;have g2:=(qk.1 m2).2;have hl0:0<st.mu.length:=by omega
  have hl1:1<st.mu.length:=by omega
  simp[go_sem,e1,e3,e5,e6,e7,e9,h8,hlt,qm,m0];refine qe.pure ck (wkE c _ _ _) ?_;cases hx:X n.kids[k] with
  |error e =>
   have he:=hXerr _ _ hx;have he0:¬e.1=0:=by omega
   rw[hx]at hE;have hE:seqL X n.kids = .error e:=hE;obtain⟨hS0,hD0⟩:=hfe e hE;rw[hS0,hD0];simp[go_sem,e1,e3,e5,e6,e7,e9,h8,hlt,qm,m0,g0,p0,hl0,qh,QE.tk,pc,he0,dgOf];rw[if_pos (qD _)];generalize hP:putCells _ 0 (cRS Sk)=P;have hP2:P=cRS Sk:=by rw[<-hP];exact pc (aI 0) _ (fun _=>false) _
   subst hP2;clear hP;simp[go_sem,e1,e3,e5,e6,e7,e9,h8,hlt,qm,m0,g0,p0,hl0,qh,QE.tk,pc,he0,dgOf];refine qg.seg [0,1,2,3] [(0,0,[]),(1,0,[]),(2,1,[1]),(3,1,[])] (by kernel_rfl) (by kernel_rfl) (by simp[go_sem]) ?_;simp[go_sem,e1,e3,e5,e6,e7,e9,h8,hlt,qm,m0,g0,p0,hl0,qh,QE.tk,pc,he0,dgOf,p1,p2,g1,g2,hl1,hml];exact .hf _ (zM zR e)
  |ok a =>
   rw[hx]at hE;simp only at hE;simp[go_sem,e1,e3,e5,e6,e7,e9,h8,hlt,qm,m0,g0,p0,hl0,qh,QE.tk,pc,dgOf];rw[if_pos (qD _)];generalize hP:putCells _ 0 (cRS Sk)=P;have hP2:P=cRS Sk:=by rw[<-hP];exact pc (aI 0) _ (fun _=>false) _
   subst hP2;clear hP;simp[go_sem,e1,e3,e5,e6,e7,e9,h8,hlt,qm,m0,g0,p0,hl0,qh,QE.tk,pc,dgOf];rw[if_pos (qD _)];simp[go_sem,e1,e3,e5,e6,e7,e9,h8,hlt];refine ZC (lo:=3) (xs:=L) (ys:=[Sk]) ⟨by simpa using jD (jD ho.1 _) _,ho.2.1,by have:=ho.2.2;simp;omega⟩ (by simp[qI]) (by simp;omega) fun av' m' ho' hm'=>?_
   simp[go_sem,e1,e3,e5,e6,e7,e9,h8,hlt,w1];refine Keep.mk' ⟨acc++[a],L++[Sk],by simp[hal],by simp[hll],by simp[go_sem,e1],by simp[go_sem,e3],by simp[go_sem,e5],by simp[go_sem,e6],by simp[go_sem,e7],by simp[go_sem],?_,?_,?_,by simpa[go_sem] using ho',fun i x hi hik hkd=>?_,?_⟩
   .simp only[qM];exact(hm' 0 (by omega)).trans (p0 _)
   .simp only[qM];exact(hm' 1 (by omega)).trans (p1 _)
   .simp only[qM];exact(hm' 2 (by omega)).trans (p2 _)
   .by_cases hik2:i=k
    .subst hik2
     rw[qv hlt]at hi;cases hi;obtain⟨q,rfl,_⟩:=hXok _ a (qw hlt) hx hkd;refine⟨q,?_,?_⟩
     .rw [q6 (by omega),hal];simp
     .rw [q6 (by omega),hll];simp[hk1 hkd q hx]
    .obtain ⟨q,q1,q2⟩:=hrel i x hi (by omega) hkd
     exact⟨q,by rw[qr (by omega)];exact q1,by rw[qr (by omega)];exact q2⟩
   .rw [hE]
    cases seqL X (n.kids.drop (k+1)) with
    |error e=>rfl
    |ok l=>simp
 .have hkl':k=n.kids.length:=by omega
  subst hkl';rw[zN]at hE;have hE:seqL X n.kids = .ok acc:=by rw[hE];simp only[seqL,zl]
  obtain⟨S',b,q1,q2,q3⟩:=hfo acc hE;have hL:((n.op=5\/n.op=11\/n.op=12\/n.op=13)\/(n.op=6\/n.op=14\/n.op=7\/n.op=8\/n.op=32\/n.op=33\/n.op=9\/n.op=10))->L=acc.map setO:=fun h=>by
   have hkd:∀ x,x∈n.kids->kd x.op=101:=fun x hx=>ZE hw h x hx
   refine jr fun i=>?_
   by_cases hi:i<n.kids.length
   .obtain ⟨q,e1,e2⟩:=hrel i n.kids[i] (by simp[hi]) hi (hkd _ (qw hi))
    rw[e2,zj,e1];rfl
   .rw [zQ (by omega),zQ (by simp;omega)]
  have hp:=q1 L hL;unfold prC at hp;have hml:2<st.mu.length:=(qk.1 m2).1;have hpush:∀(l:List Cell) (i:Nat),i<st.mu.length->(st.mu++l)[i]?=st.mu[i]?:=fun l i hi=>qr hi
  obtain⟨rr,hrr⟩:=three m0 m1 m2;simp[go_sem,e1,e3,e5,e6,e7,e9,h8,qm,m0];refine qe.lend (args':=[eTS c.ts,eNd n,lRS L]) hp ⟨.hf _ (zh _),.hf _ (qH n),rdRS ho,trivial⟩ (ZD S' b) ?_;have hrl:st.mu.length=rr.length+3:=by rw[hrr];rfl
  clear m0 m1 m2 hpush ho;simp[go_sem,e1,e3,e5,e6,e7,e9,h8,qm,hrr,qh,QE.tk,pc];rw[if_pos (qD _)];generalize hP:putCells _ 0 (cRS S')=P;have hP2:P=cRS S':=by rw[<-hP];exact pc (aI 0) _ (fun _=>false) _
  subst hP2;clear hP;cases b with
  |true =>
   obtain⟨rfl,rfl⟩:=q2 rfl;simp[go_sem,e1,e3,e5,e6,e7,e9,h8,hrr,qh,QE.tk,pc];rw[if_pos (qD _)];simp[go_sem,e1,e3,e5,e6,e7,e9,h8,hrr,qh,QE.tk,pc];exact .hf _ (zM S (0,0))
  |false =>
   obtain⟨rfl,rfl⟩:=q3 rfl;simp[go_sem,e1,e3,e5,e6,e7,e9,h8,hrr,qh,QE.tk,pc];refine qg.seg [0,1,2,3,4,5] [(0,0,[]),(1,0,[]),(2,0,[]),(3,0,[]),(4,1,[2]),(5,1,[])] (by kernel_rfl) (by kernel_rfl) (by simp[go_sem]) ?_;simp[go_sem,e1,e3,e5,e6,e7,e9,h8,hrr,qh,QE.tk,pc];exact .hf _ (zM zR (42,n.pos))
theorem qiL(c:Ck)(hc:okCk c)(s:Scp)(n:Nd)(B:Bool)(X:Nd->Res)(S:RS)(D:Dg)(h1:¬n.op=1)(h47:¬n.op=47)(hb:¬(n.op=15\/n.op=45\/n.op=46))(hw:WfN n)(hkl:n.kids.length<=401)(hT:True)(h12:¬n.op=12)(h13:n.op=13)(hBt:B=true)
  (hX1:∀ k,k∈n.kids->∃ S,qj qc 196 [eVw c B,lVr (envS s),eNd k] (.tup [eRS S,eDg (dgOf (X k))])/\(kd k.op=101->∀ q,X k = .ok (some q)->S=qo q))
  (hXok:∀ k a,k∈n.kids->X k = .ok a->kd k.op=101->∃ q,a=some q/\okKd c.ts.sorts.length q)
  (hXerr:∀ k e,X k = .error e->40<=e.1)
  (hfe:∀ e,seqL X n.kids = .error e->S=zR/\D=e)
  (hfo:∀ l,seqL X n.kids = .ok l->∃ S' b,(∀ L:List RS,((n.op=5\/n.op=11\/n.op=12\/n.op=13)\/(n.op=6\/n.op=14\/n.op=7\/n.op=8\/n.op=32\/n.op=33\/n.op=9\/n.op=10)->L=l.map setO)->prC c.ts n L S' b)/\(b=true->S=S'/\D=(0,0))/\(b=false->S=zR/\D=(42,n.pos))) :
  qj qc 196 [eVw c false,lVr (envS s),eNd n] (.tup [eRS S,eDg D]):=by
 simp only[not_or]at hb;obtain⟨b1,b2,b3⟩:=hb;refine qSQ call196 func196 rfl { mt:=[3] } ?_;have ct:=vy n.op;have cp:=vW c hc n.name;simp[go_sem,h1,h47,b1,b2,b3];simp[go_sem,h12,h13];refine qn.upK n.kids.length (fun k st=>∃(acc:List (Option Kd)) (L:List RS),acc.length=k/\L.length=k/\st.tm 1=lVr (envS s)/\st.tm 3 = .ptr 0 0/\st.tm 5 = .ip (cNd n)/\st.tm 6 = .ptr 1 0/\st.tm 7 = .ptr 2 0/\st.tm 9=aI k/\st.mu[0]?=some (.arr (cVw c B))/\st.mu[1]?=some (.arr (aI 0 :: hB fun _=>false))/\st.mu[2]?=some (.arr [aI 0,aI 0])/\OwnF 3 st.mu 65 (st.tm 8) (L.map cRS)/\(∀(i:Nat) x,n.kids[i]?=some x->i<k->kd x.op=101->∃ q,acc[i]?=some (some q)/\L[i]?=some (qo q))/\seqL X n.kids=(match seqL X (n.kids.drop k) with | .error e => .error e | .ok l => .ok (acc++l))) ?_ ?_
 .refine ⟨[],[],rfl,rfl,by simp[go_sem],by simp[go_sem],by simp[go_sem],by simp[go_sem],by simp[go_sem],by simp[go_sem],by rw[hBt];simp[go_sem],by simp[go_sem];rfl,by simp[go_sem],by simp[go_sem];exact OwnF.nil (by simp),fun i x _ h=>absurd h (by omega),?_⟩
  simp only[List.drop_zero,yZ];cases seqL X n.kids<;>rfl
 rintro k st hk ⟨acc,L,hal,hll,e1,e3,e5,e6,e7,e9,m0,m1,m2,ho,hrel,hE⟩;generalize h8:st.tm 8=av at *
 by_cases hlt:k<n.kids.length
 .have w1:ql.wrap ((k:Int)+1)=(k:Int)+1:=qi (by omega) (by omega)
  obtain⟨Sk,ck,hk1⟩:=hX1 n.kids[k] (qw hlt);rw[zi hlt]at hE;simp only[seqL]at hE;simp[go_sem,e1,e3,e5,e6,e7,e9,h8,hlt,qm];refine qg.seg [0,1,2,3,4,5,6,7,8,9,10,11,12,13,14] [(0,0,[]),(1,0,[]),(2,0,[]),(3,0,[]),(4,0,[]),(5,0,[]),(6,0,[]),(7,1,[]),(8,0,[]),(9,0,[]),(10,0,[]),(11,2,[0,3,6]),(12,2,[0,3,6]),(13,1,[]),(14,1,[])] (by kernel_rfl) (by kernel_rfl) (by simp[go_sem]) ?_;have hml:2<st.mu.length:=(qk.1 m2).1;have hpush:∀(l:List Cell) (i:Nat),i<st.mu.length->(st.mu++l)[i]?=st.mu[i]?:=fun l i hi=>qr hi
  have p0:=fun l=>(hpush l 0 (by omega)).trans m0
  have p1:=fun l=>(hpush l 1 (by omega)).trans m1
  have p2:=fun l=>(hpush l 2 (by omega)).trans m2
  have g0:=(qk.1 m0).2;have g1:=(qk.1 m1).2;have g2:=(qk.1 m2).2;have hl0:0<st.mu.length:=by omega
  have hl1:1<st.mu.length:=by omega
  simp[go_sem,e1,e3,e5,e6,e7,e9,h8,hlt,qm,m0];refine qe.pure ck (wkE c _ _ _) ?_;cases hx:X n.kids[k] with
  |error e =>
   have he:=hXerr _ _ hx;have he0:¬e.1=0:=by omega
   rw[hx]at hE;have hE:seqL X n.kids = .error e:=hE;obtain⟨hS0,hD0⟩:=hfe e hE;rw[hS0,hD0];simp[go_sem,e1,e3,e5,e6,e7,e9,h8,hlt,qm,m0,g0,p0,hl0,qh,QE.tk,pc,he0,dgOf];rw[if_pos (qD _)];generalize hP:putCells _ 0 (cRS Sk)=P;have hP2:P=cRS Sk:=by rw[<-hP];exact pc (aI 0) _ (fun _=>false) _
   subst hP2;clear hP;simp[go_sem,e1,e3,e5,e6,e7,e9,h8,hlt,qm,m0,g0,p0,hl0,qh,QE.tk,pc,he0,dgOf];refine qg.seg [0,1,2,3] [(0,0,[]),(1,0,[]),(2,1,[1]),(3,1,[])] (by kernel_rfl) (by kernel_rfl) (by simp[go_sem]) ?_;simp[go_sem,e1,e3,e5,e6,e7,e9,h8,hlt,qm,m0,g0,p0,hl0,qh,QE.tk,pc,he0,dgOf,p1,p2,g1,g2,hl1,hml];exact .hf _ (zM zR e)
  |ok a =>
   rw[hx]at hE;simp only at hE;simp[go_sem,e1,e3,e5,e6,e7,e9,h8,hlt,qm,m0,g0,p0,hl0,qh,QE.tk,pc,dgOf];rw[if_pos (qD _)];generalize hP:putCells _ 0 (cRS Sk)=P;have hP2:P=cRS Sk:=by rw[<-hP];exact pc (aI 0) _ (fun _=>false) _
   subst hP2;clear hP;simp[go_sem,e1,e3,e5,e6,e7,e9,h8,hlt,qm,m0,g0,p0,hl0,qh,QE.tk,pc,dgOf];rw[if_pos (qD _)];simp[go_sem,e1,e3,e5,e6,e7,e9,h8,hlt];refine ZC (lo:=3) (xs:=L) (ys:=[Sk]) ⟨by simpa using jD (jD ho.1 _) _,ho.2.1,by have:=ho.2.2;simp;omega⟩ (by simp[qI]) (by simp;omega) fun av' m' ho' hm'=>?_
   simp[go_sem,e1,e3,e5,e6,e7,e9,h8,hlt,w1];refine Keep.mk' ⟨acc++[a],L++[Sk],by simp[hal],by simp[hll],by simp[go_sem,e1],by simp[go_sem,e3],by simp[go_sem,e5],by simp[go_sem,e6],by simp[go_sem,e7],by simp[go_sem],?_,?_,?_,by simpa[go_sem] using ho',fun i x hi hik hkd=>?_,?_⟩
   .simp only[qM];exact(hm' 0 (by omega)).trans (p0 _)
   .simp only[qM];exact(hm' 1 (by omega)).trans (p1 _)
   .simp only[qM];exact(hm' 2 (by omega)).trans (p2 _)
   .by_cases hik2:i=k
    .subst hik2
     rw[qv hlt]at hi;cases hi;obtain⟨q,rfl,_⟩:=hXok _ a (qw hlt) hx hkd;refine⟨q,?_,?_⟩
     .rw [q6 (by omega),hal];simp
     .rw [q6 (by omega),hll];simp[hk1 hkd q hx]
    .obtain ⟨q,q1,q2⟩:=hrel i x hi (by omega) hkd
     exact⟨q,by rw[qr (by omega)];exact q1,by rw[qr (by omega)];exact q2⟩
   .rw [hE]
    cases seqL X (n.kids.drop (k+1)) with
    |error e=>rfl
    |ok l=>simp
 .have hkl':k=n.kids.length:=by omega
  subst hkl';rw[zN]at hE;have hE:seqL X n.kids = .ok acc:=by rw[hE];simp only[seqL,zl]
  obtain⟨S',b,q1,q2,q3⟩:=hfo acc hE;have hL:((n.op=5\/n.op=11\/n.op=12\/n.op=13)\/(n.op=6\/n.op=14\/n.op=7\/n.op=8\/n.op=32\/n.op=33\/n.op=9\/n.op=10))->L=acc.map setO:=fun h=>by
   have hkd:∀ x,x∈n.kids->kd x.op=101:=fun x hx=>ZE hw h x hx
   refine jr fun i=>?_
   by_cases hi:i<n.kids.length
   .obtain ⟨q,e1,e2⟩:=hrel i n.kids[i] (by simp[hi]) hi (hkd _ (qw hi))
    rw[e2,zj,e1];rfl
   .rw [zQ (by omega),zQ (by simp;omega)]
  have hp:=q1 L hL;unfold prC at hp;have hml:2<st.mu.length:=(qk.1 m2).1;have hpush:∀(l:List Cell) (i:Nat),i<st.mu.length->(st.mu++l)[i]?=st.mu[i]?:=fun l i hi=>qr hi
  obtain⟨rr,hrr⟩:=three m0 m1 m2;simp[go_sem,e1,e3,e5,e6,e7,e9,h8,qm,m0];refine qe.lend (args':=[eTS c.ts,eNd n,lRS L]) hp ⟨.hf _ (zh _),.hf _ (qH n),rdRS ho,trivial⟩ (ZD S' b) ?_;have hrl:st.mu.length=rr.length+3:=by rw[hrr];rfl
  clear m0 m1 m2 hpush ho;simp[go_sem,e1,e3,e5,e6,e7,e9,h8,qm,hrr,qh,QE.tk,pc];rw[if_pos (qD _)];generalize hP:putCells _ 0 (cRS S')=P;have hP2:P=cRS S':=by rw[<-hP];exact pc (aI 0) _ (fun _=>false) _
  subst hP2;clear hP;cases b with
  |true =>
   obtain⟨rfl,rfl⟩:=q2 rfl;simp[go_sem,e1,e3,e5,e6,e7,e9,h8,hrr,qh,QE.tk,pc];rw[if_pos (qD _)];simp[go_sem,e1,e3,e5,e6,e7,e9,h8,hrr,qh,QE.tk,pc];exact .hf _ (zM S (0,0))
  |false =>
   obtain⟨rfl,rfl⟩:=q3 rfl;simp[go_sem,e1,e3,e5,e6,e7,e9,h8,hrr,qh,QE.tk,pc];refine qg.seg [0,1,2,3,4,5] [(0,0,[]),(1,0,[]),(2,0,[]),(3,0,[]),(4,1,[2]),(5,1,[])] (by kernel_rfl) (by kernel_rfl) (by simp[go_sem]) ?_;simp[go_sem,e1,e3,e5,e6,e7,e9,h8,hrr,qh,QE.tk,pc];exact .hf _ (zM zR (42,n.pos))
theorem qiM(c:Ck)(hc:okCk c)(s:Scp)(n:Nd)(B:Bool)(X:Nd->Res)(S:RS)(D:Dg)(h1:¬n.op=1)(h47:¬n.op=47)(hb:¬(n.op=15\/n.op=45\/n.op=46))(hw:WfN n)(hkl:n.kids.length<=401)(hT:True)(h12:¬n.op=12)(h13:¬n.op=13)(hBt:B=false)
  (hX1:∀ k,k∈n.kids->∃ S,qj qc 196 [eVw c B,lVr (envS s),eNd k] (.tup [eRS S,eDg (dgOf (X k))])/\(kd k.op=101->∀ q,X k = .ok (some q)->S=qo q))
  (hXok:∀ k a,k∈n.kids->X k = .ok a->kd k.op=101->∃ q,a=some q/\okKd c.ts.sorts.length q)
  (hXerr:∀ k e,X k = .error e->40<=e.1)
  (hfe:∀ e,seqL X n.kids = .error e->S=zR/\D=e)
  (hfo:∀ l,seqL X n.kids = .ok l->∃ S' b,(∀ L:List RS,((n.op=5\/n.op=11\/n.op=12\/n.op=13)\/(n.op=6\/n.op=14\/n.op=7\/n.op=8\/n.op=32\/n.op=33\/n.op=9\/n.op=10)->L=l.map setO)->prC c.ts n L S' b)/\(b=true->S=S'/\D=(0,0))/\(b=false->S=zR/\D=(42,n.pos))) :
  qj qc 196 [eVw c false,lVr (envS s),eNd n] (.tup [eRS S,eDg D]):=by
 simp only[not_or]at hb;obtain⟨b1,b2,b3⟩:=hb;refine qSQ call196 func196 rfl { mt:=[3] } ?_;have ct:=vy n.op;have cp:=vW c hc n.name;simp[go_sem,h1,h47,b1,b2,b3];simp[go_sem,h12,h13];refine qn.upK n.kids.length (fun k st=>∃(acc:List (Option Kd)) (L:List RS),acc.length=k/\L.length=k/\st.tm 1=lVr (envS s)/\st.tm 3 = .ptr 0 0/\st.tm 5 = .ip (cNd n)/\st.tm 6 = .ptr 1 0/\st.tm 7 = .ptr 2 0/\st.tm 9=aI k/\st.mu[0]?=some (.arr (cVw c B))/\st.mu[1]?=some (.arr (aI 0 :: hB fun _=>false))/\st.mu[2]?=some (.arr [aI 0,aI 0])/\OwnF 3 st.mu 65 (st.tm 8) (L.map cRS)/\(∀(i:Nat) x,n.kids[i]?=some x->i<k->kd x.op=101->∃ q,acc[i]?=some (some q)/\L[i]?=some (qo q))/\seqL X n.kids=(match seqL X (n.kids.drop k) with | .error e => .error e | .ok l => .ok (acc++l))) ?_ ?_
 .refine ⟨[],[],rfl,rfl,by simp[go_sem],by simp[go_sem],by simp[go_sem],by simp[go_sem],by simp[go_sem],by simp[go_sem],by rw[hBt];simp[go_sem],by simp[go_sem];rfl,by simp[go_sem],by simp[go_sem];exact OwnF.nil (by simp),fun i x _ h=>absurd h (by omega),?_⟩
  simp only[List.drop_zero,yZ];cases seqL X n.kids<;>rfl
 rintro k st hk ⟨acc,L,hal,hll,e1,e3,e5,e6,e7,e9,m0,m1,m2,ho,hrel,hE⟩;generalize h8:st.tm 8=av at *
 by_cases hlt:k<n.kids.length
 .have w1:ql.wrap ((k:Int)+1)=(k:Int)+1:=qi (by omega) (by omega)
  obtain⟨Sk,ck,hk1⟩:=hX1 n.kids[k] (qw hlt);rw[zi hlt]at hE;simp only[seqL]at hE;simp[go_sem,e1,e3,e5,e6,e7,e9,h8,hlt,qm];refine qg.seg [0,1,2,3,4,5,6,7,8,9,10,11,12,13,14] [(0,0,[]),(1,0,[]),(2,0,[]),(3,0,[]),(4,0,[]),(5,0,[]),(6,0,[]),(7,1,[]),(8,0,[]),(9,0,[]),(10,0,[]),(11,2,[0,3,6]),(12,2,[0,3,6]),(13,1,[]),(14,1,[])] (by kernel_rfl) (by kernel_rfl) (by simp[go_sem]) ?_;have hml:2<st.mu.length:=(qk.1 m2).1;have hpush:∀(l:List Cell) (i:Nat),i<st.mu.length->(st.mu++l)[i]?=st.mu[i]?:=fun l i hi=>qr hi
  have p0:=fun l=>(hpush l 0 (by omega)).trans m0
  have p1:=fun l=>(hpush l 1 (by omega)).trans m1
  have p2:=fun l=>(hpush l 2 (by omega)).trans m2
  have g0:=(qk.1 m0).2;have g1:=(qk.1 m1).2;have g2:=(qk.1 m2).2;have hl0:0<st.mu.length:=by omega
  have hl1:1<st.mu.length:=by omega
  simp[go_sem,e1,e3,e5,e6,e7,e9,h8,hlt,qm,m0];refine qe.pure ck (wkE c _ _ _) ?_;cases hx:X n.kids[k] with
  |error e =>
   have he:=hXerr _ _ hx;have he0:¬e.1=0:=by omega
   rw[hx]at hE;have hE:seqL X n.kids = .error e:=hE;obtain⟨hS0,hD0⟩:=hfe e hE;rw[hS0,hD0];simp[go_sem,e1,e3,e5,e6,e7,e9,h8,hlt,qm,m0,g0,p0,hl0,qh,QE.tk,pc,he0,dgOf];rw[if_pos (qD _)];generalize hP:putCells _ 0 (cRS Sk)=P;have hP2:P=cRS Sk:=by rw[<-hP];exact pc (aI 0) _ (fun _=>false) _
   subst hP2;clear hP;simp[go_sem,e1,e3,e5,e6,e7,e9,h8,hlt,qm,m0,g0,p0,hl0,qh,QE.tk,pc,he0,dgOf];refine qg.seg [0,1,2,3] [(0,0,[]),(1,0,[]),(2,1,[1]),(3,1,[])] (by kernel_rfl) (by kernel_rfl) (by simp[go_sem]) ?_;simp[go_sem,e1,e3,e5,e6,e7,e9,h8,hlt,qm,m0,g0,p0,hl0,qh,QE.tk,pc,he0,dgOf,p1,p2,g1,g2,hl1,hml];exact .hf _ (zM zR e)
  |ok a =>
   rw[hx]at hE;simp only at hE;simp[go_sem,e1,e3,e5,e6,e7,e9,h8,hlt,qm,m0,g0,p0,hl0,qh,QE.tk,pc,dgOf];rw[if_pos (qD _)];generalize hP:putCells _ 0 (cRS Sk)=P;have hP2:P=cRS Sk:=by rw[<-hP];exact pc (aI 0) _ (fun _=>false) _
   subst hP2;clear hP;simp[go_sem,e1,e3,e5,e6,e7,e9,h8,hlt,qm,m0,g0,p0,hl0,qh,QE.tk,pc,dgOf];rw[if_pos (qD _)];simp[go_sem,e1,e3,e5,e6,e7,e9,h8,hlt];refine ZC (lo:=3) (xs:=L) (ys:=[Sk]) ⟨by simpa using jD (jD ho.1 _) _,ho.2.1,by have:=ho.2.2;simp;omega⟩ (by simp[qI]) (by simp;omega) fun av' m' ho' hm'=>?_
   simp[go_sem,e1,e3,e5,e6,e7,e9,h8,hlt,w1];refine Keep.mk' ⟨acc++[a],L++[Sk],by simp[hal],by simp[hll],by simp[go_sem,e1],by simp[go_sem,e3],by simp[go_sem,e5],by simp[go_sem,e6],by simp[go_sem,e7],by simp[go_sem],?_,?_,?_,by simpa[go_sem] using ho',fun i x hi hik hkd=>?_,?_⟩
   .simp only[qM];exact(hm' 0 (by omega)).trans (p0 _)
   .simp only[qM];exact(hm' 1 (by omega)).trans (p1 _)
   .simp only[qM];exact(hm' 2 (by omega)).trans (p2 _)
   .by_cases hik2:i=k
    .subst hik2
     rw[qv hlt]at hi;cases hi;obtain⟨q,rfl,_⟩:=hXok _ a (qw hlt) hx hkd;refine⟨q,?_,?_⟩
     .rw [q6 (by omega),hal];simp
     .rw [q6 (by omega),hll];simp[hk1 hkd q hx]
    .obtain ⟨q,q1,q2⟩:=hrel i x hi (by omega) hkd
     exact⟨q,by rw[qr (by omega)];exact q1,by rw[qr (by omega)];exact q2⟩
   .rw [hE]
    cases seqL X (n.kids.drop (k+1)) with
    |error e=>rfl
    |ok l=>simp
 .have hkl':k=n.kids.length:=by omega
  subst hkl';rw[zN]at hE;have hE:seqL X n.kids = .ok acc:=by rw[hE];simp only[seqL,zl]
  obtain⟨S',b,q1,q2,q3⟩:=hfo acc hE;have hL:((n.op=5\/n.op=11\/n.op=12\/n.op=13)\/(n.op=6\/n.op=14\/n.op=7\/n.op=8\/n.op=32\/n.op=33\/n.op=9\/n.op=10))->L=acc.map setO:=fun h=>by
   have hkd:∀ x,x∈n.kids->kd x.op=101:=fun x hx=>ZE hw h x hx
   refine jr fun i=>?_
   by_cases hi:i<n.kids.length
   .obtain ⟨q,e1,e2⟩:=hrel i n.kids[i] (by simp[hi]) hi (hkd _ (qw hi))
    rw[e2,zj,e1];rfl
   .rw [zQ (by omega),zQ (by simp;omega)]
  have hp:=q1 L hL;unfold prC at hp;have hml:2<st.mu.length:=(qk.1 m2).1;have hpush:∀(l:List Cell) (i:Nat),i<st.mu.length->(st.mu++l)[i]?=st.mu[i]?:=fun l i hi=>qr hi
  obtain⟨rr,hrr⟩:=three m0 m1 m2;simp[go_sem,e1,e3,e5,e6,e7,e9,h8,qm,m0];refine qe.lend (args':=[eTS c.ts,eNd n,lRS L]) hp ⟨.hf _ (zh _),.hf _ (qH n),rdRS ho,trivial⟩ (ZD S' b) ?_;have hrl:st.mu.length=rr.length+3:=by rw[hrr];rfl
  clear m0 m1 m2 hpush ho;simp[go_sem,e1,e3,e5,e6,e7,e9,h8,qm,hrr,qh,QE.tk,pc];rw[if_pos (qD _)];generalize hP:putCells _ 0 (cRS S')=P;have hP2:P=cRS S':=by rw[<-hP];exact pc (aI 0) _ (fun _=>false) _
  subst hP2;clear hP;cases b with
  |true =>
   obtain⟨rfl,rfl⟩:=q2 rfl;simp[go_sem,e1,e3,e5,e6,e7,e9,h8,hrr,qh,QE.tk,pc];rw[if_pos (qD _)];simp[go_sem,e1,e3,e5,e6,e7,e9,h8,hrr,qh,QE.tk,pc];exact .hf _ (zM S (0,0))
  |false =>
   obtain⟨rfl,rfl⟩:=q3 rfl;simp[go_sem,e1,e3,e5,e6,e7,e9,h8,hrr,qh,QE.tk,pc];refine qg.seg [0,1,2,3,4,5] [(0,0,[]),(1,0,[]),(2,0,[]),(3,0,[]),(4,1,[2]),(5,1,[])] (by kernel_rfl) (by kernel_rfl) (by simp[go_sem]) ?_;simp[go_sem,e1,e3,e5,e6,e7,e9,h8,hrr,qh,QE.tk,pc];exact .hf _ (zM zR (42,n.pos))
theorem qiN(c:Ck)(hc:okCk c)(s:Scp)(hs:ScOk c.ts.sorts.length s)(inn:Bool)(n:Nd)(hw:WfN n)(h1:¬n.op=1)(h47:¬n.op=47)(hb:¬(n.op=15\/n.op=45\/n.op=46))(ht:(inn&&yy c n.op n.name)=false)(ih:∀ k,k∈n.kids->∀ inn,ExR c s inn k):ExR c s inn n:=by
 have hx:exam c s inn n=match zo c s (inn||decide (n.op=12)||decide (n.op=13)) n.kids with | .error e => .error e | .ok l=>yi c.ts.sorts.length n.op n.n n.pos l:=by
  rw[vC,ht,if_neg (by simp),if_neg h1,if_neg h47,if_neg hb];generalize zo c s _ n.kids=Z;cases Z<;>rfl
 have hB1:n.op=12\/n.op=13->(inn||decide (n.op=12)||decide (n.op=13))=true:=fun h=>by rcases h with h|h<;>simp[h]
 have hB2:¬n.op=12->¬n.op=13->(inn||decide (n.op=12)||decide (n.op=13))=inn:=fun h h'=>by simp[h,h']
 generalize (inn||decide (n.op=12)||decide (n.op=13))=B at *
 obtain⟨S,D,hSD,hq,hfe,hfo⟩:∃ S D,dgOf (exam c s inn n)=D/\(kd n.op=101->∀ q,exam c s inn n = .ok (some q)->S=qo q)/\(∀ e,zo c s B n.kids = .error e->S=zR/\D=e) /\
   (∀ l,zo c s B n.kids = .ok l->∃ S' b,(∀ L:List RS,((n.op=5\/n.op=11\/n.op=12\/n.op=13)\/(n.op=6\/n.op=14\/n.op=7\/n.op=8\/n.op=32\/n.op=33\/n.op=9\/n.op=10)->L=l.map setO)->prC c.ts n L S' b)/\(b=true->S=S'/\D=(0,0))/\(b=false->S=zR/\D=(42,n.pos))):=by
  rw[hx];cases hE:zo c s B n.kids with
  |error e=>exact⟨zR,e,rfl,(fun _ q h=>by cases h),(fun e' h=>by cases h;exact⟨rfl,rfl⟩),(fun l h=>by cases h)⟩
  |ok l =>
   obtain⟨hl1,hl2⟩:=Va hE;have hap:=(Wd hc.ts.ns hw hl1 (fun i k' a hi ha hkd=>u3 hc (szN k') k' s B a (qs _) (hw.kid (List.mem_of_getElem? hi)) hs (hl2 i k' a hi ha) hkd)).2;obtain⟨S',b,p1,p2⟩:=qiA c.ts hc.ts n l h1 (fun h=>hb (.inl h)) (fun h=>by
    rcases h with h|h|h|h
    .exact hap.1 h
    .exact hap.2.1 (.inl h)
    .exact hap.2.1 (.inr (.inl h))
    .exact hap.2.1 (.inr (.inr h))) hap.2.2
   simp only;cases hA:yi c.ts.sorts.length n.op n.n n.pos l with
   |error e =>
    rw[hA]at p2;have p2:b=false:=p2;refine⟨zR,e,rfl,(fun _ q h=>by cases h),(fun e' h=>by cases h),(fun l' h=>by cases h;exact⟨S',b,p1,(fun h=>by rw[p2]at h;cases h),(fun _=>⟨rfl,qiC hA⟩)⟩)⟩
   |ok ko =>
    rw[hA]at p2;obtain⟨p2,p3⟩:=p2;refine⟨S',(0,0),rfl,(fun hk q h=>?_),(fun e' h=>by cases h),(fun l' h=>by cases h;exact⟨S',b,p1,(fun _=>⟨rfl,rfl⟩),(fun h=>by rw[p2]at h;cases h)⟩)⟩;obtain⟨q',e1,e2⟩:=p3 hk;cases h;cases e1;exact e2
 refine⟨S,?_,hq⟩;rw[hSD];clear hSD hx hq;obtain⟨X,hX⟩:∃ X:Nd->Res,X=exam c s B:=⟨_,rfl⟩;have hX1:∀ k,k∈n.kids->∃ S,qj qc 196 [eVw c B,lVr (envS s),eNd k] (.tup [eRS S,eDg (dgOf (X k))])/\(kd k.op=101->∀ q,X k = .ok (some q)->S=qo q):=fun k hk=>by rw[hX];exact ih k hk B
 have hXok:∀ k a,k∈n.kids->X k = .ok a->kd k.op=101->∃ q,a=some q/\okKd c.ts.sorts.length q:=fun k a hk h hkd=>by rw[hX]at h;exact u3 hc (szN k) k s B a (qs _) (hw.kid hk) hs h hkd
 have hXerr:∀ k e,X k = .error e->40<=e.1:=fun k e h=>by rw[hX]at h;exact Qn c (szN k) k s B e (qs _) h
 rw[g9,<-hX]at hfe hfo;clear hX ih;have hkl:=hw.len;cases inn with
 |true =>
  have hT:z7 n.op=false:=by
   rw[Bool.true_and,VB,Bool.or_eq_false_iff]at ht;exact ht.1
  by_cases h12:n.op=12
  .exact qiH c hc s n B X S D h1 h47 hb hw hkl hT h12 (by omega) (hB1 (.inl h12)) hX1 hXok hXerr hfe hfo
  by_cases h13:n.op=13
  .exact qiI c hc s n B X S D h1 h47 hb hw hkl hT h12 h13 (hB1 (.inr h13)) hX1 hXok hXerr hfe hfo
  exact qiJ c hc s n B X S D h1 h47 hb hw hkl hT h12 h13 (hB2 h12 h13) hX1 hXok hXerr hfe hfo
 |false =>
  by_cases h12:n.op=12
  .exact qiK c hc s n B X S D h1 h47 hb hw hkl trivial h12 (by omega) (hB1 (.inl h12)) hX1 hXok hXerr hfe hfo
  by_cases h13:n.op=13
  .exact qiL c hc s n B X S D h1 h47 hb hw hkl trivial h12 h13 (hB1 (.inr h13)) hX1 hXok hXerr hfe hfo
  exact qiM c hc s n B X S D h1 h47 hb hw hkl trivial h12 h13 (hB2 h12 h13) hX1 hXok hXerr hfe hfo
theorem ng(c:Ck)(hc:okCk c):∀(m:Nat) (n:Nd),depN n<=m->WfN n->∀(s:Scp),ScOk c.ts.sorts.length s->s.length+m<=80000->∀ inn,ExR c s inn n
 | 0,n,hm,_,_,_,_,_=>by have:=qh2 n;omega
 |m+1,n,hm,hw,s,hs,hsl,inn=>by
  have ih:∀ k,k∈n.kids->∀ s',ScOk c.ts.sorts.length s'->s'.length<=s.length+1->∀ inn,ExR c s' inn k:=fun k hk s' hs' hl inn=>ng c hc m k (by have:=qh1 hk;rw[Zw]at hm;omega) (hw.kid hk) s' hs' (by omega) inn
  cases ht:inn&&yy c n.op n.name with
  |true =>
   rw[qA]at ht;rw[ht.1];exact qiD c hc s n ht.2
  |false =>
   by_cases h1:n.op=1
   .exact qiE c hc s (by omega) inn n h1
   by_cases h47:n.op=47
   .exact qiF c hc s hs inn n hw h47 ht fun k hk=>ih k hk s hs (by omega) true
   by_cases hb:n.op=15\/n.op=45\/n.op=46
   .exact qiG c hc s hs (by omega) inn n hw hb ht ih
   .exact qiN c hc s hs inn n hw h1 h47 hb ht fun k hk inn=>ih k hk s hs (by omega) inn
end QS
namespace QT
open YF Y9 Y10 Y1 Y2 Y14 Y15 Y16 YZ P1 P2 PA Q5 QD QE QI QJ QL QM QO QS
def ckR(ts:TS)(i:Nat):Ck:=⟨ts,i,tmsL ts ts.preds.length⟩
theorem nh{ts:TS}(h:okTS ts){i:Nat}(hi:i<=ts.preds.length):okCk (ckR ts i):=⟨h,hi,by show i<=(tmsL ts ts.preds.length).length;rw[Qi ts _ (qs _)];exact hi⟩
theorem nj{c c':Ck}(hts:c'.ts=c.ts)(hcl:∀ nm,zA c' nm=zA c nm)(htm:∀ op nm,yy c' op nm=yy c op nm):∀(m:Nat) (n:Nd) (s:Scp) (inn:Bool),szN n<=m->exam c s inn n=exam c' s inn n
 | 0,n,_,_,hm=>by obtain⟨op,nm,i,ks,p⟩:=n;simp[szN]at hm
 |m+1,n,s,inn,hm=>by
  have hk:∀ k,k∈n.kids->∀(s:Scp) (inn:Bool),exam c s inn k=exam c' s inn k:=fun k hk s inn=>nj hts hcl htm m k s inn (by have:=yj hk;omega)
  refine qf8 rfl rfl rfl rfl (htm _ _) (fun _=>?_) (by rw[hts]) (hcl _) (by rw[hts]) rfl (fun _ ps=>qf9 fun k hkk=>hk k hkk s true) (fun _ inn=>?_) (fun _ _ _ inn=>pU fun k hkk=>hk k hkk s inn)
  .rw [pR,pR,hts]
  .cases hks:n.kids with
   |nil=>rfl
   |cons k ks =>
    have hmem:∀ x,x∈k :: ks->x∈n.kids:=fun x hx=>by rw[hks];exact hx
    simp only[yI];rw[hk k (hmem k (zW ..)) s inn];have hr:∀ a,zo c ((n.name,a) :: s) inn ks=zo c' ((n.name,a) :: s) inn ks:=fun a=>pU fun x hx=>hk x (hmem x (zD _ hx)) _ _
    simp only[hr]
theorem qiO{ts:TS}(h:okTS ts){i:Nat}(hi:i<=ts.preds.length)(n:Nd)(s:Scp)(inn:Bool):exam (ckR ts i) s inn n=exam (mkCk ts i) s inn n:=by
 refine(nj (c:=mkCk ts i) (c':=ckR ts i) rfl (fun nm=>rfl) (fun op nm=>?_) (szN n) n s inn (qs _)).symm;unfold yy;have e:zA (ckR ts i) nm=zA (mkCk ts i) nm:=rfl;rw[e];cases hc:zA (mkCk ts i) nm with
 |none=>rfl
 |some p =>
  obtain⟨h1,h2⟩:=Yf (Zo h hi) hc;have h1:p<i:=h1;have h2:p<ts.preds.length:=h2;simp only;have a1:=PC.W3 ts p ts.preds.length h2 (qs _) h2;have a2:=PC.W3 ts p i h1 hi h2;show (z7 op||(decide (op=47)&&(tmsL ts ts.preds.length).getD p false))=(z7 op||(decide (op=47)&&(tmsL ts i).getD p false));rw[a1,a2]
theorem qiP{ts:TS}(h:okTS ts){i:Nat}(hi:i<=ts.preds.length)(env:List (ByteArray×Int))(n:Nd):jA (mkCk ts i) env n=if 30<=n.op then dgOf (exam (ckR ts i) (y7 env) false n) else (43,n.pos):=by
 unfold jA;rw[qiO h hi]
theorem nn(ts:TS)(h:okTS ts)(wp:∀ p,p∈ts.preds->WfN p.body)(i:Nat)(hi:i<=ts.preds.length)(env:List (ByteArray×Int))(he:Zt ts.sorts.length env)(hel:env.length<=1000)(n:Nd)(hw:WfN n)(hd:depN n<=24) :
  qj qc 159 [eTS ts,aI i,lPm env,eNd n] (eDg (jA (mkCk ts i) env n)):=by
 rw[qiP h hi];have hns:=h.ns;have hs:=py he;have hbl:(y7 env).length=env.length:=by
  have:=congrArg List.length (gS env);rw[VA]at this;simpa[envV] using this.symm
 obtain⟨S,ce,_⟩:=ng (ckR ts i) (nh h hi) 24 n hd hw (y7 env) hs (by omega) false;have cv:=envU env hel (fun p hp=>by have:=he.r p hp;omega);rw[gS]at cv;have c1:=qhU n;have c2:=qhQ ts h wp;refine qSQ call159 func159 rfl {} ?_;simp[go_sem];refine qe.pure c1 (.cons (.hf (qH n)) .nil) ?_;by_cases h30:30<=n.op
 .rw [if_pos h30]
  generalize dgOf (exam (ckR ts i) (y7 env) false n)=D at *
  simp[go_sem,h30];refine qg.seg [0,1,3,5,7,2,4,6,8,9,10,11,12,13,14,15] [(0,0,[]),(1,0,[]),(3,0,[]),(5,0,[]),(7,0,[]),(2,1,[0,7]),(4,0,[]),(6,1,[0,7]),(8,1,[]),(9,0,[]),(10,0,[]),(11,0,[]),(12,2,[0,1,7]),(13,2,[0,1,7]),(14,1,[]),(15,1,[])] (by kernel_rfl) (by kernel_rfl) (by simp[go_sem]) ?_;simp[go_sem];refine qe.pure c2 (.cons (.hf (zh ts)) .nil) ?_;simp[go_sem];refine qe.pure cv (.cons (.hf (yJ env)) .nil) ?_;simp[go_sem];refine qe.pure ce (wkE (ckR ts i) false _ n) ?_;simp[go_sem,qh,QE.tk,pc];rw[if_pos (qD _)];generalize hP:putCells _ 0 (cRS S)=P;have hP2:P=cRS S:=by rw[<-hP];exact pc (aI 0) _ (fun _=>false) _
  subst hP2;clear hP;simp[go_sem,qh,QE.tk,pc];exact .hf _ (vb D)
 .rw [if_neg h30]
  simp[go_sem,h30];exact .hf _ (vb (43,n.pos))
theorem qiQ(ts:TS)(h:okTS ts)(wp:∀ p,p∈ts.preds->WfN p.body)(env:List (ByteArray×Int))(he:Zt ts.sorts.length env)(hel:env.length<=1000)(n:Nd)(hw:WfN n)(hd:depN n<=24) :
  qj qc 94 [eTS ts,lPm env,eNd n] (eDg (jN ts env n)):=by
 have c1:=nn ts h wp ts.preds.length (qs _) env he hel n hw hd;have e:jA (mkCk ts ts.preds.length) env n=jN ts env n:=rfl;rw[e]at c1;generalize jN ts env n=D at *
 refine qSQ call94 func94 rfl {} ?_;simp[go_sem];refine qe.pure c1 (.cons (.hf (zh ts)) (.cons (.hf (HF.sc _)) (.cons (.hf (yJ env)) (.cons (.hf (qH n)) .nil)))) ?_;simp[go_sem];exact .hf _ (vb D)
theorem ZF(a b:List Bool):dups (a++b)=dups a++dups b:=by simp[dups]
theorem uz(b:Bool):dups [b]=if b=true then [(41,0)] else []:=by cases b<;>rfl
theorem ux(l:List Bool):(dups l).length<=l.length:=by
 unfold dups;rw[yO];exact List.length_filter_le ..
theorem W4{α:Type}(eqv:α->α->Bool)(l:List α)(k:Nat)(h:k<l.length):(repL eqv l).take (k+1)=(repL eqv l).take k++[(l.take k).any fun y=>eqv l[k] y]:=by
 have hl:k<(repL eqv l).length:=by rw[u7];exact h
 rw[Xi hl];congr 2;have:=pz eqv l h;rw[qv hl]at this;exact Option.some.inj this
theorem VC{α:Type}(p:α->Bool)(l:List α)(k:Nat)(h:k<l.length):(l.take (k+1)).any p=((l.take k).any p||p l[k]):=by
 rw[Xi h,List.any_append];simp only[List.any_cons,List.any_nil,Bool.or_false]
abbrev eS:ByteArray×Bool->ByteArray×Bool->Bool:=fun x y=>decide (x.1=y.1)
abbrev eF:Fld->Fld->Bool:=fun x y=>decide (x.name=y.name)&&decide (x.sorts=y.sorts)
abbrev eP:Pd->Pd->Bool:=fun x y=>decide (x.name=y.name)
abbrev eM:ByteArray×Int->ByteArray×Int->Bool:=fun x y=>decide (x.1=y.1)
abbrev eA:ByteArray×Nd->ByteArray×Nd->Bool:=fun x y=>decide (x.1=y.1)
theorem wg{mu:Mu}{lo:Nat}{s x:AV}{xs ys:List Dg}{K:AV->Mu->Prop}(ho:OwnF lo mu 2 s (xs.map cDg))(hx:qI mu x=some (ys.map cDg))(hl:xs.length+ys.length<=100000)(kk:∀ av mu',OwnF lo mu' 2 av ((xs++ys).map cDg)->(∀ i,i<lo->mu'[i]?=mu[i]?)->K av mu') :
  qF qc mu #[85,85] s x K:=by
 have hrows:∀ l:List Dg,zm 2 (l.map cDg):=fun l r hr=>by
  obtain⟨n,_,rfl⟩:=qq.1 hr;exact⟨rfl,rfl⟩
 refine qF.ownF (lo:=lo) (e:=134) (sz:=2) (bt:=16) (zv := .agg [aI 0,aI 0]) (xs:=xs.map cDg) (ys:=ys.map cDg) (by simp[go_sem]) (by simp[go_sem]) (by simp[go_sem]) rfl rfl (by omega) (by omega) ho hx (hrows xs) (hrows ys) (by simp;omega) ?_;intro av mu' h h2;exact kk av mu' (by rw[zt];exact h) h2
theorem qiR(ts:TS)(h:okTS ts)(mu:Mu):qX qc 92 [eTS ts] mu fun e m=>∃ av,e = .ret av/\OwnF mu.length m 2 av ((dups (repL eS ts.sorts)++dups (repL eF ts.fields)).map cDg)/\∀ i,i<mu.length->m[i]?=mu[i]?:=by
 refine qSW call92 func92 rfl {} ?_;have hns:=h.ns;have hnf:=h.nf;simp[go_sem];refine qn.upK ts.sorts.length (fun i st=>st.tm 1 = .ip (cTS ts)/\st.tm 4=aI i/\OwnF mu.length st.mu 2 (st.tm 3) ((dups ((repL eS ts.sorts).take i)).map cDg)/\∀ i,i<mu.length->st.mu[i]?=mu[i]?) ?_ ?_
 .exact ⟨by simp[go_sem],by simp[go_sem],by simp[go_sem,dups];exact OwnF.nil (qs _),by simp[go_sem]⟩
 rintro i st hi ⟨e1,e4,ho,hm⟩;have hlen:(dups ((repL eS ts.sorts).take i)).length<=i:=zz (ux _) (List.length_take_le ..);generalize h3:st.tm 3=av at *
 by_cases hlt:i<ts.sorts.length
 .have hnx:=W4 eS ts.sorts i hlt
  have wi:ql.wrap ((i:Int)+1)=(i:Int)+1:=qi (by omega) (by omega);simp[go_sem,e1,e4,h3,hlt];refine qn.upK i (fun k st2=>st2.tm 1 = .ip (cTS ts)/\st2.tm 4=aI i/\st2.tm 3=av/\st2.tm 6=aI k/\st2.tm 5=aB ((ts.sorts.take k).any fun y=>eS ts.sorts[i] y)/\st2.mu=st.mu) ?_ ?_
  .exact ⟨by simp[go_sem,e1],by simp[go_sem,e4],by simp[go_sem,h3],by simp[go_sem],by simp[go_sem],by simp[go_sem]⟩
  rintro k st2 hk ⟨f1,f4,f3,f6,f5,fm⟩;generalize hT:(ts.sorts.take k).any (fun y=>eS ts.sorts[i] y)=T at *
  by_cases hki:k<i
  .have hkl:k<ts.sorts.length:=by omega
   have wk:ql.wrap ((k:Int)+1)=(k:Int)+1:=qi (by omega) (by omega);have hany:=VC (fun y=>eS ts.sorts[i] y) ts.sorts k hkl;rw[hT]at hany;simp[go_sem,f1,f4,f3,f6,f5,hki];refine qg.intro (by kernel_rfl) ?_;cases T with
   |true =>
    rw[Bool.true_or]at hany;simp[go_sem,f1,f4,f3,f6,f5,hki,hkl,hlt,wk];exact Keep.mk' ⟨by simp[go_sem,f1],by simp[go_sem,f4],by simp[go_sem,f3],by simp[go_sem],by rw[hany];simp[go_sem],by simp[go_sem,fm]⟩
   |false =>
    rw[Bool.false_or]at hany;by_cases hq:ts.sorts[k].1=ts.sorts[i].1
    .have hany2:(ts.sorts.take (k+1)).any (fun y=>eS ts.sorts[i] y)=true:=by rw[hany];exact decide_eq_true hq.symm
     simp[go_sem,f1,f4,f3,f6,f5,hki,hkl,hlt,wk,hq];exact Keep.mk' ⟨by simp[go_sem,f1],by simp[go_sem,f4],by simp[go_sem,f3],by simp[go_sem],by rw[hany2];simp[go_sem],by simp[go_sem,fm]⟩
    .have hany2:(ts.sorts.take (k+1)).any (fun y=>eS ts.sorts[i] y)=false:=by rw[hany];exact decide_eq_false fun e=>hq e.symm
     simp[go_sem,f1,f4,f3,f6,f5,hki,hkl,hlt,wk,jL hq];exact Keep.mk' ⟨by simp[go_sem,f1],by simp[go_sem,f4],by simp[go_sem,f3],by simp[go_sem],by rw[hany2];simp[go_sem],by simp[go_sem,fm]⟩
  .have hke:k=i:=by omega
   subst hke;rw[hT]at hnx;cases T with
   |true =>
    simp[go_sem,f1,f4,f3,f6,f5,fm];refine wg (ys:=[(41,0)]) ho (by simp[qI]) (by simp;omega) fun av' m' ho' hm'=>?_
    simp[go_sem,f1,f4,wi];exact⟨hlt,Keep.mk' ⟨by simp[go_sem,f1],by simp[go_sem],by rw[hnx,ZF,uz,if_pos rfl];simpa[go_sem] using ho',by simp only[qM];exact fun i hi=>(hm' i hi).trans (hm i hi)⟩⟩
   |false =>
    simp[go_sem,f1,f4,f3,f6,f5,fm,wi];exact⟨hlt,Keep.mk' ⟨by simp[go_sem,f1],by simp[go_sem],by rw[hnx,ZF,uz,if_neg (by simp),zl];simpa[go_sem,f3,fm] using ho,by simp only[qM];exact hm⟩⟩
 .have hie:i=ts.sorts.length:=by omega
  subst hie;rw[zX (by rw[u7];exact qs _)]at ho;simp[go_sem,e1,e4,h3];generalize hDS:dups (repL eS ts.sorts)=DS0 at *
  have hds:DS0.length<=4:=by rw[<-hDS];exact zz (ux _) (by rw[u7];exact hns)
  refine qn.upK ts.fields.length (fun i st=>st.tm 1 = .ip (cTS ts)/\st.tm 7=aI i/\OwnF mu.length st.mu 2 (st.tm 3) ((DS0++dups ((repL eF ts.fields).take i)).map cDg)/\∀ i,i<mu.length->st.mu[i]?=mu[i]?) ?_ ?_
  .exact ⟨by simp[go_sem,e1],by simp[go_sem],by simpa[go_sem,dups,h3] using ho,by simpa[go_sem] using hm⟩
  clear hlen ho hm e1 e4 h3 hlt hi st;rintro i st hi ⟨e1,e4,ho,hm⟩;have hlen:(dups ((repL eF ts.fields).take i)).length<=i:=zz (ux _) (List.length_take_le ..);generalize h3:st.tm 3=av2 at *
  by_cases hlt:i<ts.fields.length
  .have hnx:=W4 eF ts.fields i hlt
   have wi:ql.wrap ((i:Int)+1)=(i:Int)+1:=qi (by omega) (by omega);simp[go_sem,e1,e4,h3,hlt];refine qn.upK i (fun k st2=>st2.tm 1 = .ip (cTS ts)/\st2.tm 7=aI i/\st2.tm 3=av2/\st2.tm 9=aI k/\st2.tm 8=aB ((ts.fields.take k).any fun y=>eF ts.fields[i] y)/\st2.mu=st.mu) ?_ ?_
   .exact ⟨by simp[go_sem,e1],by simp[go_sem,e4],by simp[go_sem,h3],by simp[go_sem],by simp[go_sem],by simp[go_sem]⟩
   rintro k st2 hk ⟨f1,f4,f3,f6,f5,fm⟩;generalize hT:(ts.fields.take k).any (fun y=>eF ts.fields[i] y)=T at *
   by_cases hki:k<i
   .have hkl:k<ts.fields.length:=by omega
    have wk:ql.wrap ((k:Int)+1)=(k:Int)+1:=qi (by omega) (by omega);have hany:=VC (fun y=>eF ts.fields[i] y) ts.fields k hkl;rw[hT]at hany;have hfl:=h.fl _ (qw hkl);have hsm:=qf1 ts.fields[k].sorts ts.fields[i].sorts (by omega);simp[go_sem,f1,f4,f3,f6,f5,hki];refine qg.intro (by kernel_rfl) ?_;cases T with
    |true =>
     rw[Bool.true_or]at hany;simp[go_sem,f1,f4,f3,f6,f5,hki,hkl,hlt,wk];exact Keep.mk' ⟨by simp[go_sem,f1],by simp[go_sem,f4],by simp[go_sem,f3],by simp[go_sem],by rw[hany];simp[go_sem],by simp[go_sem,fm]⟩
    |false =>
     rw[Bool.false_or]at hany;by_cases hq:ts.fields[k].name=ts.fields[i].name
     .simp [go_sem,f1,f4,f3,f6,f5,hki,hkl,hlt,wk,hq]
      refine qe.pure hsm (.cons (.hf (yh _)) (.cons (.hf (yh _)) .nil)) ?_;by_cases hq2:ts.fields[k].sorts=ts.fields[i].sorts
      .have hany2:(ts.fields.take (k+1)).any (fun y=>eF ts.fields[i] y)=true:=by rw[hany];simp[eF,hq.symm,hq2.symm]
       simp[go_sem,f1,f4,f3,f6,f5,hki,hkl,hlt,wk,hq2];exact Keep.mk' ⟨by simp[go_sem,f1],by simp[go_sem,f4],by simp[go_sem,f3],by simp[go_sem],by rw[hany2];simp[go_sem],by simp[go_sem,fm]⟩
      .have hany2:(ts.fields.take (k+1)).any (fun y=>eF ts.fields[i] y)=false:=by rw[hany];simp[eF,hq.symm];exact fun e=>hq2 e.symm
       simp[go_sem,f1,f4,f3,f6,f5,hki,hkl,hlt,wk,hq2];exact Keep.mk' ⟨by simp[go_sem,f1],by simp[go_sem,f4],by simp[go_sem,f3],by simp[go_sem],by rw[hany2];simp[go_sem],by simp[go_sem,fm]⟩
     .have hany2:(ts.fields.take (k+1)).any (fun y=>eF ts.fields[i] y)=false:=by rw[hany];simp[eF];exact fun e=>absurd e.symm hq
      simp[go_sem,f1,f4,f3,f6,f5,hki,hkl,hlt,wk,jL hq];exact Keep.mk' ⟨by simp[go_sem,f1],by simp[go_sem,f4],by simp[go_sem,f3],by simp[go_sem],by rw[hany2];simp[go_sem],by simp[go_sem,fm]⟩
   .have hke:k=i:=by omega
    subst hke;rw[hT]at hnx;cases T with
    |true =>
     simp[go_sem,f1,f4,f3,f6,f5,fm];refine wg (ys:=[(41,0)]) ho (by simp[qI]) (by simp;omega) fun av' m' ho' hm'=>?_
     simp[go_sem,f1,f4,wi];exact⟨hlt,Keep.mk' ⟨by simp[go_sem,f1],by simp[go_sem],by rw[hnx,ZF,uz,if_pos rfl,<-zx];simpa[go_sem] using ho',by simp only[qM];exact fun i hi=>(hm' i hi).trans (hm i hi)⟩⟩
    |false =>
     simp[go_sem,f1,f4,f3,f6,f5,fm,wi];exact⟨hlt,Keep.mk' ⟨by simp[go_sem,f1],by simp[go_sem],by rw[hnx,ZF,uz,if_neg (by simp),zl];simpa[go_sem,f3,fm] using ho,by simp only[qM];exact hm⟩⟩
  .have hie:i=ts.fields.length:=by omega
   subst hie;rw[zX (by rw[u7];exact qs _)]at ho;simp[go_sem,e1,e4,h3];exact⟨by simpa using ho,hm⟩
end QT
namespace QU
open YF Y9 Y10 Y1 Y2 Y15 Y16 YZ P1 P2 PA QD QI QK QT
theorem qiS{ts:TS}{i:Nat}(hi:i<ts.preds.length):(∃ p:Nat,zA (ckR ts i) ts.preds[i].name=some p/\(ts.preds.take i).any (fun y=>eP ts.preds[i] y)=true)\/(zA (ckR ts i) ts.preds[i].name=none/\(ts.preds.take i).any (fun y=>eP ts.preds[i] y)=false):=by
 cases h:zA (ckR ts i) ts.preds[i].name with
 |some p =>
  left;refine⟨p,rfl,?_⟩;unfold zA at h;rw[List.findIdx?_eq_some_iff_getElem]at h;obtain⟨hp,a1,_⟩:=h;refine List.any_eq_true.2 ⟨_,qw hp,?_⟩;have a1:decide ((ts.preds.take i)[p].name=ts.preds[i].name)=true:=a1;have a1:(ts.preds.take i)[p].name=ts.preds[i].name:=by simpa using a1
  exact decide_eq_true a1.symm
 |none =>
  right;refine⟨rfl,?_⟩;unfold zA at h;rw[List.findIdx?_eq_none_iff]at h;rw[List.any_eq_false];intro x hx;have:=h x hx;have:¬x.name=ts.preds[i].name:=by simpa using this
  simpa using fun e:ts.preds[i].name=x.name=>this e.symm
theorem Wu(d:Dg):(rp d).length<=1:=by unfold rp;split<;>simp
theorem rdDg{lo:Nat}{mu:Mu}{av:AV}{xs:List Dg}(h:OwnF lo mu 2 av (xs.map cDg)):Rd mu av (lDg xs):=by
 refine h.1.rd (zm.ok fun r hr=>?_) fun r hr c hc=>?_
 .obtain ⟨n,_,rfl⟩:=qq.1 hr
  exact⟨rfl,rfl⟩
 .obtain ⟨n,_,rfl⟩:=qq.1 hr
  rcases qz.1 hc with rfl|hc
  .exact HF.sc _
  .rw [qY]at hc;subst hc;exact HF.sc _
theorem ZG{lo sz:Nat}{mu:Mu}{av:AV}{xs:List (List AV)}(h:OwnF lo mu sz av xs)(c:Cell):OwnF lo (mu++[c]) sz av xs:=⟨jD h.1 c,h.2.1,by have:=h.2.2;simp;omega⟩
theorem qiT(ts:TS)(h:okTS ts)(wp:∀ p,p∈ts.preds->WfN p.body)(i:Nat)(hi:i<ts.preds.length)(hd:depN ts.preds[i].body<=24):qj qc 93 [eTS ts,aI i] (lDg (vF ts i)):=by
 have hpd:=h.pl _ (qw hi);have hnp:=h.np;have c1:=nn ts h wp i (by omega) ts.preds[i].params ⟨by omega,hpd.2⟩ (by omega) ts.preds[i].body (wp _ (qw hi)) hd;have c2:=Vy (ckR ts i) (nh h (by omega)) ts.preds[i].name;have hct:=qiS hi;have hp:vF ts i=dups [(ts.preds.take i).any (fun y=>eP ts.preds[i] y)]++(dups (repL eM ts.preds[i].params)++rp (jA (mkCk ts i) ts.preds[i].params ts.preds[i].body)):=by
  unfold vF;rw[qv hi];simp only;rw[pV,qv hi]
 rw[hp];generalize hD:jA (mkCk ts i) ts.preds[i].params ts.preds[i].body=D at *
 generalize hb:(ts.preds.take i).any (fun y=>eP ts.preds[i] y)=b at *
 have hdl:(dups [b]).length<=1:=by cases b<;>simp[dups]
 refine qSQ call93 func93 rfl {} ?_;simp[go_sem];refine qg.intro (by kernel_rfl) ?_;simp[go_sem,hi,vA];refine qe.pure c2 (.cons (.hf (zh _)) (.cons (.hf (HF.sc _)) (.cons (.hf (HF.sc _)) .nil))) ?_;have wk:WKs [eTS ts,aI i,lPm ts.preds[i].params,eNd ts.preds[i].body] [eTS ts,aI i,lPm ts.preds[i].params,eNd ts.preds[i].body] := .cons (.hf (zh _)) (.cons (.hf (HF.sc _)) (.cons (.hf (yJ _)) (.cons (.hf (qH _)) .nil)));have hrow:=vA;have fin:∀ st:St,True:=fun _=>trivial
 rcases hct with ⟨p,hc,hbt⟩|⟨hc,hbt⟩
 case' inl =>
  subst hbt;rw[hc];have hp0:(0:Int)<=(p:Int):=by omega
  simp[go_sem,idxO,hp0];refine wg (lo:=0) (xs:=[]) (ys:=[(41,0)]) (OwnF.nil (by simp)) (by simp[qI]) (by simp) fun av0 m0 ho0 _=>?_
  simp[go_sem,hi,vA]
 case' inr =>
  subst hbt;rw[hc];simp[go_sem,idxO,hi,vA]
 all_goals
  generalize hpp:ts.preds[i]=pd at *
 case' inl =>
  refine qn.upK pd.params.length (fun k st=>st.tm 2 = .ip (cTS ts)/\st.tm 1=aI i/\st.tm 6=lPm pd.params/\st.tm 7=aI k/\OwnF 0 st.mu 2 (st.tm 5) ((dups [true]++dups ((repL eM pd.params).take k)).map cDg)) ?_ ?_
  .exact ⟨by simp[go_sem],by simp[go_sem],by simp[go_sem],by simp[go_sem],by simpa[go_sem,dups] using ho0⟩
 case' inr =>
  refine qn.upK pd.params.length (fun k st=>st.tm 2 = .ip (cTS ts)/\st.tm 1=aI i/\st.tm 6=lPm pd.params/\st.tm 7=aI k/\OwnF 0 st.mu 2 (st.tm 5) ((dups [false]++dups ((repL eM pd.params).take k)).map cDg)) ?_ ?_
  .exact ⟨by simp[go_sem],by simp[go_sem],by simp[go_sem],by simp[go_sem],by simp[go_sem,dups];exact OwnF.nil (by simp)⟩
 all_goals
  rintro k st hk ⟨e2,e1,e6,e7,ho⟩;have hlen:(dups ((repL eM pd.params).take k)).length<=k:=zz (Y16.ux _) (List.length_take_le ..);generalize h5:st.tm 5=av at *
  by_cases hlt:k<pd.params.length
  .have hnx:=W4 eM pd.params k hlt
   have wi:ql.wrap ((k:Int)+1)=(k:Int)+1:=qi (by omega) (by omega);simp[go_sem,e2,e1,e6,e7,h5,hlt];refine qn.upK k (fun j st2=>st2.tm 2 = .ip (cTS ts)/\st2.tm 1=aI i/\st2.tm 6=lPm pd.params/\st2.tm 7=aI k/\st2.tm 5=av/\st2.tm 9=aI j/\st2.tm 8=aB ((pd.params.take j).any fun y=>eM pd.params[k] y)/\st2.mu=st.mu) ?_ ?_
   .exact ⟨by simp[go_sem,e2],by simp[go_sem,e1],by simp[go_sem,e6],by simp[go_sem,e7],by simp[go_sem,h5],by simp[go_sem],by simp[go_sem],by simp[go_sem]⟩
   rintro j st2 hj ⟨f2,f1,f6,f7,f5,f9,f8,fm⟩;generalize hT:(pd.params.take j).any (fun y=>eM pd.params[k] y)=T at *
   by_cases hjk:j<k
   .have hjl:j<pd.params.length:=by omega
    have wj:ql.wrap ((j:Int)+1)=(j:Int)+1:=qi (by omega) (by omega);have hany:=VC (fun y=>eM pd.params[k] y) pd.params j hjl;rw[hT]at hany;simp[go_sem,f2,f1,f6,f7,f5,f9,f8,hjk];refine qg.intro (by kernel_rfl) ?_;cases T with
    |true =>
     rw[Bool.true_or]at hany;simp[go_sem,f2,f1,f6,f7,f5,f9,f8,hjk,hjl,hlt,wj];exact Keep.mk' ⟨by simp[go_sem,f2],by simp[go_sem,f1],by simp[go_sem,f6],by simp[go_sem,f7],by simp[go_sem,f5],by simp[go_sem],by rw[hany];simp[go_sem],by simp[go_sem,fm]⟩
    |false =>
     rw[Bool.false_or]at hany;by_cases hq:pd.params[j].1=pd.params[k].1
     .have hany2:(pd.params.take (j+1)).any (fun y=>eM pd.params[k] y)=true:=by rw[hany];exact decide_eq_true hq.symm
      simp[go_sem,f2,f1,f6,f7,f5,f9,f8,hjk,hjl,hlt,wj,hq];exact Keep.mk' ⟨by simp[go_sem,f2],by simp[go_sem,f1],by simp[go_sem,f6],by simp[go_sem,f7],by simp[go_sem,f5],by simp[go_sem],by rw[hany2];simp[go_sem],by simp[go_sem,fm]⟩
     .have hany2:(pd.params.take (j+1)).any (fun y=>eM pd.params[k] y)=false:=by rw[hany];exact decide_eq_false fun e=>hq e.symm
      simp[go_sem,f2,f1,f6,f7,f5,f9,f8,hjk,hjl,hlt,wj,jL hq];exact Keep.mk' ⟨by simp[go_sem,f2],by simp[go_sem,f1],by simp[go_sem,f6],by simp[go_sem,f7],by simp[go_sem,f5],by simp[go_sem],by rw[hany2];simp[go_sem],by simp[go_sem,fm]⟩
   .have hje:j=k:=by omega
    subst hje;rw[hT]at hnx;cases T with
    |true =>
     simp[go_sem,f2,f1,f6,f7,f5,f9,f8,fm];refine wg (ys:=[(41,0)]) ho (by simp[qI]) (by simp;omega) fun av' m' ho' hm'=>?_
     simp[go_sem,f2,f1,f6,f7,wi];exact⟨hlt,Keep.mk' ⟨by simp[go_sem,f2],by simp[go_sem,f1],by simp[go_sem,f6],by simp[go_sem],by rw[hnx,ZF,<-zx];simpa[go_sem,uz] using ho'⟩⟩
    |false =>
     simp[go_sem,f2,f1,f6,f7,f5,f9,f8,fm,wi];exact⟨hlt,Keep.mk' ⟨by simp[go_sem,f2],by simp[go_sem,f1],by simp[go_sem,f6],by simp[go_sem],by rw[hnx,ZF];simpa[go_sem,uz,f5,fm] using ho⟩⟩
  .have hke:k=pd.params.length:=by omega
   subst hke;rw[zX (by rw[u7];exact qs _)]at ho hlen;simp[go_sem,e2,e1,e6,e7,h5];refine qg.intro (by kernel_rfl) ?_;simp[go_sem,e2,e1,e6,e7,h5,hi,hpp,vA];refine qe.pure c1 wk ?_;by_cases hd0:D.1=0
   .have hrp:rp D=[]:=if_pos hd0
    rw[hrp];simp[go_sem,h5,hd0];exact rdDg (ZG ho _)
   .have hrp:rp D=[D]:=if_neg hd0
    rw[hrp];simp[go_sem,h5,hd0];refine wg (ys:=[D]) (ZG ho _) (by simp[qI]) (by simp only[zr,List.length_singleton];omega) fun av' m' ho' hm'=>?_
    simp[go_sem];rw[zx]at ho';exact rdDg ho'
theorem Yk(f:Nat->List Dg)(n:Nat):(qu (n+1)).flatMap f=(qu n).flatMap f++f n:=by
 rw[List.range_succ,List.flatMap_append];simp only[List.flatMap_cons,List.flatMap_nil,zl]
theorem qiU(ts:TS)(h:okTS ts)(wp:∀ p,p∈ts.preds->WfN p.body)(wf:∀ f,f∈ts.facts->WfN f.2)(dp:∀ p,p∈ts.preds->depN p.body<=24)(df:∀ f,f∈ts.facts->depN f.2<=24):qj qc 48 [eTS ts] (lDg (uw ts)):=by
 have hnp:=h.np;have hnf:=h.nfa;have hD:(dups (repL eS ts.sorts)++dups (repL eF ts.fields)).length<=10:=by
  have a1:=Y16.ux (repL eS ts.sorts);have a2:=Y16.ux (repL eF ts.fields);rw[u7]at a1 a2;have:=h.ns;have:=h.nf;rw[zr];omega
 have hC:uw ts=(dups (repL eS ts.sorts)++dups (repL eF ts.fields))++((qu ts.preds.length).flatMap (vF ts)++(qu ts.facts.length).flatMap (u9 ts ts.facts)):=by
  unfold uw;rw[zx]
 rw[hC];have hdc:=qiR ts h [];generalize dups (repL eS ts.sorts)++dups (repL eF ts.fields)=D0 at *
 refine qSQ call48 func48 rfl {} ?_;simp[go_sem];refine qe.eff0 hdc (fun r m hr=>?_) (fun r m hr=>?_)
 case refine_2 =>
  obtain⟨av,e,_⟩:=hr;cases e
 obtain⟨av0,e,ho0,_⟩:=hr;cases e;simp[go_sem];refine qn.upK ts.preds.length (fun i st=>st.tm 1 = .ip (cTS ts)/\st.tm 4=aI i/\OwnF 0 st.mu 2 (st.tm 3) ((D0++(qu i).flatMap (vF ts)).map cDg)) ?_ ?_
 .exact ⟨by simp[go_sem],by simp[go_sem],by simpa[go_sem] using ho0⟩
 rintro i st hi ⟨e1,e4,ho⟩;have hlen:=Y16.Wv (vF ts) (Y16.pB h) i;generalize h3:st.tm 3=av at *
 by_cases hlt:i<ts.preds.length
 .have hnx:=Yk (vF ts) i
  have hp1:=Y16.pB h i;have hdf:=qiT ts h wp i hlt (dp _ (qw hlt));have wi:ql.wrap ((i:Int)+1)=(i:Int)+1:=qi (by omega) (by omega);generalize vF ts i=PD at *
  simp[go_sem,e1,e4,h3,hlt];refine qe.pure hdf (.cons (.hf (zh ts)) (.cons (.hf (HF.sc _)) .nil)) ?_;simp[go_sem,e1,e4,h3,hlt];refine wg (ys:=PD) ho (by simp[qI]) (by simp only[zr];omega) fun av' m' ho' hm'=>?_
  simp[go_sem,e1,e4,wi];exact⟨hlt,Keep.mk' ⟨by simp[go_sem,e1],by simp[go_sem],by rw[hnx,<-zx];simpa[go_sem] using ho'⟩⟩
 .have hie:i=ts.preds.length:=by omega
  subst hie;simp[go_sem,e1,e4,h3];generalize (qu ts.preds.length).flatMap (vF ts)=P0 at *
  refine qn.upK ts.facts.length (fun i st=>st.tm 1 = .ip (cTS ts)/\st.tm 5=aI i/\OwnF 0 st.mu 2 (st.tm 3) (((D0++P0)++(qu i).flatMap (u9 ts ts.facts)).map cDg)) ?_ ?_
  .exact ⟨by simp[go_sem,e1],by simp[go_sem],by simpa[go_sem,h3] using ho⟩
  clear ho e1 e4 h3 hlt hi st;rintro i st hi ⟨e1,e4,ho⟩;have hlen2:=Y16.Wv (u9 ts ts.facts) (Y16.qfT ts ts.facts) i;generalize h3:st.tm 3=av2 at *
  by_cases hlt:i<ts.facts.length
  .have hnx:=Yk (u9 ts ts.facts) i
   have hfd:u9 ts ts.facts i=dups [(ts.facts.take i).any (fun y=>eA ts.facts[i] y)]++rp (jN ts [] ts.facts[i].2):=by
    unfold u9;rw[qv hlt];simp only;rw[pV,qv hlt]
   rw[hfd]at hnx;have cf:=qiQ ts h wp [] ⟨by simp,by simp⟩ (by simp) ts.facts[i].2 (wf _ (qw hlt)) (df _ (qw hlt));have wi:ql.wrap ((i:Int)+1)=(i:Int)+1:=qi (by omega) (by omega);generalize jN ts [] ts.facts[i].2=D at *
   simp[go_sem,e1,e4,h3,hlt];refine qn.upK i (fun k st2=>st2.tm 1 = .ip (cTS ts)/\st2.tm 5=aI i/\st2.tm 3=av2/\st2.tm 7=aI k/\st2.tm 6=aB ((ts.facts.take k).any fun y=>eA ts.facts[i] y)/\st2.mu=st.mu) ?_ ?_
   .exact ⟨by simp[go_sem,e1],by simp[go_sem,e4],by simp[go_sem,h3],by simp[go_sem],by simp[go_sem],by simp[go_sem]⟩
   rintro k st2 hk ⟨f1,f4,f3,f6,f5,fm⟩;generalize hT:(ts.facts.take k).any (fun y=>eA ts.facts[i] y)=T at *
   by_cases hki:k<i
   .have hkl:k<ts.facts.length:=by omega
    have wk:ql.wrap ((k:Int)+1)=(k:Int)+1:=qi (by omega) (by omega);have hany:=VC (fun y=>eA ts.facts[i] y) ts.facts k hkl;rw[hT]at hany;simp[go_sem,f1,f4,f3,f6,f5,hki];refine qg.intro (by kernel_rfl) ?_;cases T with
    |true =>
     rw[Bool.true_or]at hany;simp[go_sem,f1,f4,f3,f6,f5,hki,hkl,hlt,wk];exact Keep.mk' ⟨by simp[go_sem,f1],by simp[go_sem,f4],by simp[go_sem,f3],by simp[go_sem],by rw[hany];simp[go_sem],by simp[go_sem,fm]⟩
    |false =>
     rw[Bool.false_or]at hany;by_cases hq:ts.facts[k].1=ts.facts[i].1
     .have hany2:(ts.facts.take (k+1)).any (fun y=>eA ts.facts[i] y)=true:=by rw[hany];exact decide_eq_true hq.symm
      simp[go_sem,f1,f4,f3,f6,f5,hki,hkl,hlt,wk,hq];exact Keep.mk' ⟨by simp[go_sem,f1],by simp[go_sem,f4],by simp[go_sem,f3],by simp[go_sem],by rw[hany2];simp[go_sem],by simp[go_sem,fm]⟩
     .have hany2:(ts.facts.take (k+1)).any (fun y=>eA ts.facts[i] y)=false:=by rw[hany];exact decide_eq_false fun e=>hq e.symm
      simp[go_sem,f1,f4,f3,f6,f5,hki,hkl,hlt,wk,jL hq];exact Keep.mk' ⟨by simp[go_sem,f1],by simp[go_sem,f4],by simp[go_sem,f3],by simp[go_sem],by rw[hany2];simp[go_sem],by simp[go_sem,fm]⟩
   .have hke:k=i:=by omega
    subst hke;rw[hT]at hnx;have wkf:WKs [eTS ts,.lst true [],eNd ts.facts[k].2] [eTS ts,lPm [],eNd ts.facts[k].2] := .cons (.hf (zh ts)) (.cons (WK.lst fun r hr=>absurd hr zk) (.cons (.hf (qH _)) .nil));have hrw:=K4;cases T with
    |true =>
     simp[go_sem,f1,f4,f3,f6,f5,fm];refine wg (ys:=[(41,0)]) ho (by simp[qI]) (by simp only[zr,List.length_singleton];omega) fun av' m' ho' hm'=>?_
     simp[go_sem,f1,f4,wi];refine qg.intro (by kernel_rfl) ?_;simp[go_sem,f1,f4,wi,hlt];refine qe.pure cf wkf ?_;by_cases hd0:D.1=0
     .have hrp:rp D=[]:=if_pos hd0
      rw[hrp,zl]at hnx;simp[go_sem,f1,f3,f4,wi,hd0,fm];exact⟨hlt,Keep.mk' ⟨by simp[go_sem,f1],by simp[go_sem],by rw[hnx,<-zx];simpa[go_sem,uz] using ZG ho' (.arr [aI 0,aI D.2])⟩⟩
     .have hrp:rp D=[D]:=if_neg hd0
      rw[hrp]at hnx;simp[go_sem,f1,f3,f4,wi,hd0,fm];refine wg (ys:=[D]) (ZG ho' _) (by simp[qI]) (by simp only[zr,List.length_singleton];omega) fun av2' m2' ho2' hm2'=>?_
      simp[go_sem,f1,f4,wi];exact⟨hlt,Keep.mk' ⟨by simp[go_sem,f1],by simp[go_sem],by rw[hnx,<-zx];simpa[go_sem,uz,zx] using ho2'⟩⟩
    |false =>
     simp[go_sem,f1,f4,f3,f6,f5,fm,wi];refine qg.intro (by kernel_rfl) ?_;simp[go_sem,f1,f4,f3,f6,f5,fm,wi,hlt];refine qe.pure cf wkf ?_;by_cases hd0:D.1=0
     .have hrp:rp D=[]:=if_pos hd0
      rw[hrp,zl]at hnx;simp[go_sem,f1,f3,f4,wi,hd0,fm];exact⟨hlt,Keep.mk' ⟨by simp[go_sem,f1],by simp[go_sem],by rw[hnx,<-zx];simpa[go_sem,uz,f3] using ZG ho (.arr [aI 0,aI D.2])⟩⟩
     .have hrp:rp D=[D]:=if_neg hd0
      rw[hrp]at hnx;simp[go_sem,f1,f3,f4,wi,hd0,fm];refine wg (ys:=[D]) (ZG ho _) (by simp[qI]) (by simp only[zr,List.length_singleton];omega) fun av2' m2' ho2' hm2'=>?_
      simp[go_sem,f1,f4,wi];exact⟨hlt,Keep.mk' ⟨by simp[go_sem,f1],by simp[go_sem],by rw[hnx,<-zx];simpa[go_sem,uz,zx] using ho2'⟩⟩
  .have hie:i=ts.facts.length:=by omega
   subst hie;simp[go_sem,e1,e4,h3];rw[zx]at ho;exact rdDg ho
end QU
namespace QP
end QP
namespace QV
open QE QF
abbrev tupR(s:RS)(m:Nat):List (List Int):=((qu m).filter s.2).map (dig s.1)
theorem U4(s:RS)(m:Nat):(tupR s m).length<=m:=by
 rw[yO];exact zz (List.length_filter_le ..) (by simp)
end QV
namespace PD
open P1 P2 Y1 Y2 YX PA PB PC
structure ArgR (c0:Ck) (es:List (ByteArray×Bool)) (L:Int) (s':Scp) (k:Kd) (a:Nd):Prop where
 ex:∃ k',exam c0 s' true a = .ok (some k')/\Sub k' k
 good:GoodN es L a
 kd:kd a.op=101
def RlV(c0:Ck)(es:List (ByteArray×Bool))(L:Int)(s':Scp)(v:ByteArray):Option Kd->Option IV->Prop
 |none,none=>True
 |none,some _=>False
 |some k,none=>∃ k',lookS v s'=some k'/\Sub k' k
 |some k,some ⟨some a,_,_⟩=>ArgR c0 es L s' k a
 |some k,some ⟨none,_,to⟩=>(∃ k',lookS to s'=some k'/\Sub k' k)/\vLe es L to
structure Rl (c0:Ck) (es:List (ByteArray×Bool)) (L:Int) (body:Bool) (s s':Scp) (env:IEnv):Prop where
 mean:∀ v,v∈s'->jM c0.ts v.1=[]
 rel:∀ v,tkn es v->RlV c0 es L s' v (lookS v s) (getK v env)
 arg:body=false->∀ v iv,getK v env=some iv->iv.arg=none
end PD
namespace PE
open P1 P2 Y1 Y2 YX PD
def OwnV(c0:Ck)(es:List (ByteArray×Bool))(L:Int)(s':Scp):Option Kd->Option IV->Prop
 |none,none=>True
 |some k,some ⟨some a,_,_⟩=>ArgR c0 es L s' k a
 |_,_=>False
theorem g7{n:Nd}(hw:WfN n)(h:n.op=47):∀ k,k∈n.kids->kd k.op=101:=by
 have hsh:=hw.shape;have e:shp n.op n.kids.length=some (qW (min n.kids.length 401) 101):=by
  unfold shp;rw[if_neg (by omega),if_neg (by omega),if_neg (by omega),if_neg (by omega),if_neg (by omega),if_neg (by omega),if_neg (by omega),if_pos h]
 rw[e]at hsh;simp only[qp]at hsh;intro k hk;have:kd k.op∈n.kids.map fun k=>kd k.op:=qq.2 ⟨k,hk,rfl⟩
 rw[<-hsh]at this;exact List.eq_of_mem_replicate this
theorem g8{n:Nd}(hw:WfN n)(h:n.op=15\/n.op=45\/n.op=46):∃ a f,n.kids=[a,f]/\kd a.op=101:=by
 have hs:=hw.shape;unfold shp at hs;rw[if_neg (by omega),if_neg (by omega),if_neg (by omega),if_pos (by omega)]at hs;simp only[qp]at hs
 match hk:n.kids,hs with
 | [a,f],hs =>
  simp at hs;exact⟨a,f,rfl,hs.1.symm⟩
 | [],hs=>simp at hs
 | [_],hs=>simp at hs
 |_ :: _ :: _ :: _,hs=>simp at hs
end PE
namespace PF
end PF
namespace QW
open Y1 YZ
theorem WD:∀ a b:List Nd,yN (a++b)=yN a++yN b
 | [],b=>rfl
 |x :: a,b=>by rw[List.cons_append];simp only[yN];rw[WD a b,zx]
end QW
namespace QX
open Y9 Y1 YZ
theorem two{α:Type}{l:List α}{a b:α}(h0:l[0]?=some a)(h1:l[1]?=some b):∃ r,l=a :: b :: r:=by
 match l,h0,h1 with
 |_ :: _ :: r,h0,h1 =>
  simp at h0 h1;exact⟨r,by rw[h0,h1]⟩
def cAr:Option Nd->List AV
 |some a=>cNd a
 |none=>[aI 0,aS ⟨#[]⟩,aI 0,.lst true [],aI 0]
@[go_sem] theorem cAr_some(a:Nd):cAr (some a)=cNd a:=rfl
@[go_sem] theorem cAr_none:cAr none=[aI 0,aS ⟨#[]⟩,aI 0,.lst true [],aI 0]:=rfl
theorem nq:∀(m:Nat) (n:Nd),szN n<=m->Small n->depN n<=1000000->qj qc 73 [eNd n] (aI (depN n))
 | 0,n,hm,_,_=>by obtain⟨op,nm,i,ks,p⟩:=n;simp[szN]at hm
 |m+1,n,hm,hs,hd=>by
  have ih:∀ k,k∈n.kids->qj qc 73 [eNd k] (aI (depN k)):=fun k hk =>
   nq m k (by have:=yj hk;omega) (hs.kid hk) (by rw[Zw]at hd;have:=pX hk;omega)
  rw[Zw]at hd⊢;have hlen:=hs.len;have hnn:=Vm n.kids;generalize hD:yq n.kids=D at *
  refine qSQ call73 func73 rfl {} ?_;simp[go_sem];refine qn.upK n.kids.length (fun k st=>∃ d,st.tm 3=aI d/\st.tm 1 = .ip (cNd n)/\st.tm 4=aI k/\0<=d/\max d (yq (n.kids.drop k))=D) ?_ ?_
  .exact ⟨0,by simp[go_sem],by simp[go_sem],by simp[go_sem],by omega,by simp only[List.drop_zero,hD];omega⟩
  .rintro k st hk ⟨d,e3,e1,e4,hd0,hI⟩
   by_cases hkl:k=n.kids.length
   .subst hkl
    rw[zN]at hI;simp only[yq]at hI;have hdD:d=D:=by omega
    subst hdD;have w:ql.wrap (d+1)=d+1:=qi (by omega) (by omega);simp[go_sem,e3,e1,e4,w];exact .hf _ (HF.sc _)
   .have hlt:k<n.kids.length:=by omega
    have w1:ql.wrap ((k:Int)+1)=(k:Int)+1:=qi (by omega) (by omega);rw[zi hlt]at hI;simp only[yq]at hI;simp[go_sem,e3,e1,e4,hlt,qm];refine qe.pure (ih n.kids[k] (qw hlt)) (.cons (.hf (qH _)) .nil) ?_;simp[go_sem,e3,e1,e4,w1];refine⟨hlt,Keep.mk' ?_⟩;refine⟨if d<depN n.kids[k] then depN n.kids[k] else d,by simp[go_sem],by simp[go_sem,e1],by simp[go_sem],?_,?_⟩
    .have:=pW n.kids[k]
     split<;>omega
    .split<;>omega
end QX
namespace FE
open Y1 Y9 P2 YF E3 E5 EA Q1 Q4 F1 F2 FB FC
theorem rd_ks{mu:Mu}(full:Bool)(ks:List Nd):Rd mu (.lst full (ks.map cNd)) (lNd ks):=by
 refine .wk _ full _ (.hf _ (HF.lst fun r hr c hc=>?_));obtain⟨b,_,rfl⟩:=qq.1 hr;exact vw b c hc
theorem Vu{mu:Mu}(full:Bool)(op:Int)(nm:ByteArray)(i:Int)(ks:List Nd)(q:Int):Rd mu (.agg [aI op,aS nm,aI i,.lst full (ks.map cNd),aI q]) (eNd (.mk op nm i ks q)):=by
 have hq:cNd (.mk op nm i ks q)=[aI op,aS nm,aI i,lNd ks,aI q]:=by rw[jK];rfl
 rw[eNd,hq];refine .agg _ _ rfl fun k x y hx hy=>?_
 match k,hx,hy with
 | 0,hx,hy=>simp at hx hy;subst hx;subst hy;exact .hf _ (HF.sc _)
 | 1,hx,hy=>simp at hx hy;subst hx;subst hy;exact .hf _ (HF.sc _)
 | 2,hx,hy=>simp at hx hy;subst hx;subst hy;exact .hf _ (HF.sc _)
 | 3,hx,hy=>simp at hx hy;subst hx;subst hy;exact rd_ks full ks
 | 4,hx,hy=>simp at hx hy;subst hx;subst hy;exact .hf _ (HF.sc _)
 |k+5,hx,hy=>simp at hx
theorem qJ(op:Int)(ks:List Nd):qj qc 28 [aI op,lNd ks] (eNd (nk op ks)):=by
 refine qSQ call28 func28 rfl {} ?_;simp[go_sem];exact Vu false op ⟨#[]⟩ 0 ks 0
theorem y8(nm:ByteArray):qj qc 46 [aS nm] (eNd (.mk 1 nm 0 [] 0)):=by
 refine qSQ call46 func46 rfl {} ?_;simp[go_sem];exact Vu true 1 nm 0 [] 0
theorem vX(op:Int)(nm:ByteArray)(d f:Nd):qj qc 26 [aI op,aS nm,eNd d,eNd f] (eNd (nb op nm d f)):=by
 refine qSQ call26 func26 rfl {} ?_;simp[go_sem];exact Vu true op nm 0 [d,f] 0
theorem W5(n:Nd):qj qc 27 [eNd n] (aB (decide (kd n.op=102))):=by
 refine qSQ call27 func27 rfl {} ?_;simp[go_sem];refine qe.pure (Wx n.op) (.cons (.hf (HF.sc _)) .nil) ?_;simp[go_sem];exact .hf _ (HF.sc _)
theorem qiV(n:Nd):qj qc 30 [eNd n] (aB (decide (kd n.op=101))):=by
 refine qSQ call30 func30 rfl {} ?_;simp[go_sem];refine qe.pure (Wx n.op) (.cons (.hf (HF.sc _)) .nil) ?_;simp[go_sem];exact .hf _ (HF.sc _)
theorem wk5(x:Mo)(p:Pl)(n:Nd):WKs [eTS x.ts,eMd x.m,aI p.st,lPm p.env,eNd n] [eTS x.ts,eMd x.m,aI p.st,lPm p.env,eNd n] := .cons (.hf (zh _)) (.cons (.hf (yB _)) (.cons (.hf (HF.sc _)) (.cons (.hf (yJ _)) (.cons (.hf (qH _)) .nil))))
def samB(q r:Bool×Int):Bool:=decide (q.1=r.1)&&decide (q.2=r.2)
theorem qiW(x:Mo)(N:Nat)(hM:OkMa x N)(p:Pl)(hp:OkP x N p)(a b:Nd)(ha:WfN a)(hb:WfN b)(qa:bd p a)(qb:bd p b):qj qc 29 [eTS x.ts,eMd x.m,aI p.st,lPm p.env,eNd a,eNd b] (aB (samB (fmV ((den x a).F p)) (fmV ((den x b).F p)))):=by
 have h1:=Yp x N a ha hM p hp qa;have h2:=Yp x N b hb hM p hp qb;rw[Vh]at h1 h2;generalize fmV ((den x a).F p)=A at *
 generalize fmV ((den x b).F p)=B at *
 obtain⟨a1,a2⟩:=A;obtain⟨b1,b2⟩:=B;refine qSQ call29 func29 rfl {} ?_;simp[go_sem];refine qe.pure h1 (wk5 x p a) ?_;simp[go_sem];refine qe.pure h2 (wk5 x p b) ?_;by_cases h:a2=b2
 .simp [go_sem,samB,h]
  cases a1<;>cases b1<;>simp[go_sem,h]<;>exact .hf _ (HF.sc _)
 .simp [go_sem,samB,h]
  cases a1<;>cases b1<;>simp[go_sem,h]<;>exact .hf _ (HF.sc _)
theorem nr:∀(m:Nat) (n:Nd),szN n<=m->∀ left:Int,-1000000<=left/\left<=1000000->qj qc 72 [eNd n,aI left] (aI (cntN n left))
 | 0,n,hm,_,_=>by obtain⟨op,nm,i,ks,p⟩:=n;simp[szN]at hm
 |m+1,n,hm,left,hl=>by
  have ih:∀ k,k∈n.kids->∀ left:Int,-1000000<=left/\left<=1000000->qj qc 72 [eNd k,aI left] (aI (cntN k left)):=fun k hk =>
   nr m k (by have:=yj hk;omega)
  rw[Wy];generalize hR:yM n.kids left 1=R;refine qSQ call72 func72 rfl {} ?_;simp[go_sem];refine qn.upK n.kids.length (fun k st=>∃ sum:Int,st.tm 1=aI left/\st.tm 2 = .ip (cNd n)/\st.tm 5=aI sum/\st.tm 6=aI k/\(k:Int)+1<=sum/\(sum<=left+1\/sum=1)/\yM (n.kids.drop k) left sum=R) ?_ ?_
  .exact ⟨1,by simp[go_sem],by simp[go_sem],by simp[go_sem],by simp[go_sem],by omega,by omega,by simpa using hR⟩
  .rintro k st hk ⟨sum,e1,e2,e5,e6,hs1,hs2,hI⟩
   by_cases hkl:k=n.kids.length
   .subst hkl
    rw[zN]at hI;simp only[yM]at hI;subst hI;simp[go_sem,e1,e2,e5,e6];exact .hf _ (HF.sc _)
   .have hlt:k<n.kids.length:=by omega
    rw[zi hlt]at hI;simp only[yM]at hI;by_cases hc:sum<=left
    .rw [if_pos hc]at hI
     have w1:ql.wrap ((k:Int)+1)=(k:Int)+1:=qi (by omega) (by omega);have w2:ql.wrap (left-sum)=left-sum:=qi (by omega) (by omega);have hcl:=Vk n.kids[k] (left-sum);have w3:ql.wrap (sum+cntN n.kids[k] (left-sum))=sum+cntN n.kids[k] (left-sum):=qi (by omega) (by omega);simp[go_sem,e1,e2,e5,e6,hlt,hc,w2,qm];refine qe.pure (ih n.kids[k] (qw hlt) (left-sum) ⟨by omega,by omega⟩) (.cons (.hf (qH _)) (.cons (.hf (HF.sc _)) .nil)) ?_;simp[go_sem,e1,e2,e5,e6,w1,w3];refine⟨hlt,Keep.mk' ?_⟩;exact⟨sum+cntN n.kids[k] (left-sum),by simp[go_sem,e1],by simp[go_sem,e2],by simp[go_sem],by simp[go_sem],by omega,by omega,hI⟩
    .rw [if_neg hc]at hI
     subst hI;simp[go_sem,e1,e2,e5,e6,hlt,hc];exact .hf _ (HF.sc _)
def zZ(op a s:Int)(i:Nat)(k:Int):Int:=if op=48\/op=49\/op=51 then k*s else if i=1/\(op=45\/op=46\/op=15) then k*a else k
def minW(v:Int):Int:=if 1000000<v then 1000000 else v
mutual
def wkN(a s:Int):Nd->Int
 | .mk op _ _ ks _=>wkNs a s op 0 ks 1
def wkNs(a s op:Int):Nat->List Nd->Int->Int
 |_,[],sum=>sum
 |i,k :: ks,sum=>wkNs a s op (i+1) ks (minW (sum+zZ op a s i (wkN a s k)))
end
theorem qiX(a s:Int)(n:Nd):wkN a s n=wkNs a s n.op 0 n.kids 1:=by
 obtain⟨op,nm,i,ks,q⟩:=n;rw[wkN];rfl
theorem nu{op a s:Int}{i:Nat}{k:Int}(ha:0<=a/\a<=100)(hs:0<=s/\s<=100)(hk:0<=k/\k<=1000000):0<=zZ op a s i k/\zZ op a s i k<=100000000:=by
 unfold zZ;have m1:=Int.mul_nonneg hk.1 ha.1;have m2:=Int.mul_nonneg hk.1 hs.1;have m3:k*a<=1000000*100:=jt hk.2 ha.2 ha.1 (by omega);have m4:k*s<=1000000*100:=jt hk.2 hs.2 hs.1 (by omega);split
 .omega
 .split<;>omega
theorem ny{v:Int}(h:0<=v):0<=minW v/\minW v<=1000000:=by unfold minW;split<;>omega
mutual
theorem nA(a s:Int)(ha:0<=a/\a<=100)(hs:0<=s/\s<=100):∀ n:Nd,0<=wkN a s n/\wkN a s n<=1000000
 | .mk op _ _ ks _=>by rw[wkN];exact nB a s ha hs op ks 0 1 (by omega)
theorem nB(a s:Int)(ha:0<=a/\a<=100)(hs:0<=s/\s<=100)(op:Int):∀(ks:List Nd) (i:Nat) (sum:Int),0<=sum/\sum<=1000000->0<=wkNs a s op i ks sum/\wkNs a s op i ks sum<=1000000
 | [],_,sum,h=>by rw[wkNs];exact h
 |k :: ks,i,sum,h=>by
  rw[wkNs];have h1:=nA a s ha hs k;have h2:=nu (op:=op) (i:=i) ha hs h1;exact nB a s ha hs op ks (i+1) _ (ny (by omega))
end
theorem nD(a s:Int)(ha:0<=a/\a<=100)(hs:0<=s/\s<=100):∀(m:Nat) (n:Nd),szN n<=m->Small n->qj qc 50 [eNd n,aI a,aI s] (aI (wkN a s n))
 | 0,n,hm,_=>by obtain⟨op,nm,i,ks,p⟩:=n;simp[szN]at hm
 |m+1,n,hm,hsm=>by
  have ih:∀ k,k∈n.kids->qj qc 50 [eNd k,aI a,aI s] (aI (wkN a s k)):=fun k hk=>nD a s ha hs m k (by have:=yj hk;omega) (hsm.kid hk)
  rw[qiX];have hlen:=hsm.len;generalize hR:wkNs a s n.op 0 n.kids 1=R;refine qSQ call50 func50 rfl {} ?_;simp[go_sem];refine qn.upK n.kids.length (fun k st=>∃ sum:Int,st.tm 1=aI a/\st.tm 2=aI s/\st.tm 3 = .ip (cNd n)/\st.tm 7=aI sum/\st.tm 8=aI k/\(0<=sum/\sum<=1000000)/\wkNs a s n.op k (n.kids.drop k) sum=R) ?_ ?_
  .exact ⟨1,by simp[go_sem],by simp[go_sem],by simp[go_sem],by simp[go_sem],by simp[go_sem],by omega,by simpa using hR⟩
  .rintro k st hk ⟨sum,e1,e2,e3,e7,e8,hs1,hI⟩
   by_cases hkl:k=n.kids.length
   .subst hkl
    rw[zN,wkNs]at hI;subst hI;simp[go_sem,e1,e2,e3,e7,e8];exact .hf _ (HF.sc _)
   .have hlt:k<n.kids.length:=by omega
    rw[zi hlt,wkNs]at hI;have w1:ql.wrap ((k:Int)+1)=(k:Int)+1:=qi (by omega) (by omega);have hwk:=nA a s ha hs n.kids[k];have hsl:=nu (op:=n.op) (i:=k) ha hs hwk;have hml:=ny (v:=sum+zZ n.op a s k (wkN a s n.kids[k])) (by omega);have m1:=Int.mul_nonneg hwk.1 ha.1;have m2:=Int.mul_nonneg hwk.1 hs.1;have m3:wkN a s n.kids[k] * a<=1000000*100:=jt hwk.2 ha.2 ha.1 (by omega);have m4:wkN a s n.kids[k] * s<=1000000*100:=jt hwk.2 hs.2 hs.1 (by omega);simp[go_sem,e1,e2,e3,e7,e8,hlt,qm];refine qe.pure (ih n.kids[k] (qw hlt)) (.cons (.hf (qH _)) (.cons (.hf (HF.sc _)) (.cons (.hf (HF.sc _)) .nil))) ?_;generalize wkN a s n.kids[k]=K at *
    by_cases ik:k=1
    .have ik':(k:Int)=1:=by omega
     by_cases o48:n.op=48
     .have hv:zZ n.op a s k K=K*s:=by simp[zZ,o48,ik,ik']
      rw[hv]at hI hml;have w2:ql.wrap (K*s)=K*s:=qi (by omega) (by omega);have w3:ql.wrap (sum+K*s)=sum+K*s:=qi (by omega) (by omega);simp[go_sem,e1,e2,e3,e7,e8,w1,w2,w3,hlt,o48,eq_true ik,eq_true ik'];exact Keep.mk' ⟨_,by simp[go_sem,e1],by simp[go_sem,e2],by simp[go_sem,e3],by simp[go_sem,minW],by simp[go_sem],hml,hI⟩
     by_cases o49:n.op=49
     .have hv:zZ n.op a s k K=K*s:=by simp[zZ,o49,ik,ik']
      rw[hv]at hI hml;have w2:ql.wrap (K*s)=K*s:=qi (by omega) (by omega);have w3:ql.wrap (sum+K*s)=sum+K*s:=qi (by omega) (by omega);simp[go_sem,e1,e2,e3,e7,e8,w1,w2,w3,hlt,o49,eq_true ik,eq_true ik'];exact Keep.mk' ⟨_,by simp[go_sem,e1],by simp[go_sem,e2],by simp[go_sem,e3],by simp[go_sem,minW],by simp[go_sem],hml,hI⟩
     by_cases o51:n.op=51
     .have hv:zZ n.op a s k K=K*s:=by simp[zZ,o51,ik,ik']
      rw[hv]at hI hml;have w2:ql.wrap (K*s)=K*s:=qi (by omega) (by omega);have w3:ql.wrap (sum+K*s)=sum+K*s:=qi (by omega) (by omega);simp[go_sem,e1,e2,e3,e7,e8,w1,w2,w3,hlt,o51,eq_true ik,eq_true ik'];exact Keep.mk' ⟨_,by simp[go_sem,e1],by simp[go_sem,e2],by simp[go_sem,e3],by simp[go_sem,minW],by simp[go_sem],hml,hI⟩
     by_cases o45:n.op=45
     .have hv:zZ n.op a s k K=K*a:=by simp[zZ,o45,ik,ik']
      rw[hv]at hI hml;have w2:ql.wrap (K*a)=K*a:=qi (by omega) (by omega);have w3:ql.wrap (sum+K*a)=sum+K*a:=qi (by omega) (by omega);simp[go_sem,e1,e2,e3,e7,e8,w1,w2,w3,hlt,o45,eq_true ik,eq_true ik'];exact Keep.mk' ⟨_,by simp[go_sem,e1],by simp[go_sem,e2],by simp[go_sem,e3],by simp[go_sem,minW],by simp[go_sem],hml,hI⟩
     by_cases o46:n.op=46
     .have hv:zZ n.op a s k K=K*a:=by simp[zZ,o46,ik,ik']
      rw[hv]at hI hml;have w2:ql.wrap (K*a)=K*a:=qi (by omega) (by omega);have w3:ql.wrap (sum+K*a)=sum+K*a:=qi (by omega) (by omega);simp[go_sem,e1,e2,e3,e7,e8,w1,w2,w3,hlt,o46,eq_true ik,eq_true ik'];exact Keep.mk' ⟨_,by simp[go_sem,e1],by simp[go_sem,e2],by simp[go_sem,e3],by simp[go_sem,minW],by simp[go_sem],hml,hI⟩
     by_cases o15:n.op=15
     .have hv:zZ n.op a s k K=K*a:=by simp[zZ,o15,ik,ik']
      rw[hv]at hI hml;have w2:ql.wrap (K*a)=K*a:=qi (by omega) (by omega);have w3:ql.wrap (sum+K*a)=sum+K*a:=qi (by omega) (by omega);simp[go_sem,e1,e2,e3,e7,e8,w1,w2,w3,hlt,o15,eq_true ik,eq_true ik'];exact Keep.mk' ⟨_,by simp[go_sem,e1],by simp[go_sem,e2],by simp[go_sem,e3],by simp[go_sem,minW],by simp[go_sem],hml,hI⟩
     have hv:zZ n.op a s k K=K:=by simp[zZ,o48,o49,o51,o45,o46,o15,ik,ik']
     rw[hv]at hI hml;have w2:=w1;have w3:ql.wrap (sum+K)=sum+K:=qi (by omega) (by omega);simp[go_sem,e1,e2,e3,e7,e8,w1,w2,w3,hlt,o48,o49,o51,o45,o46,o15,eq_true ik,eq_true ik'];exact Keep.mk' ⟨_,by simp[go_sem,e1],by simp[go_sem,e2],by simp[go_sem,e3],by simp[go_sem,minW],by simp[go_sem],hml,hI⟩
    .have ik':¬(k:Int)=1:=by omega
     by_cases o48:n.op=48
     .have hv:zZ n.op a s k K=K*s:=by simp[zZ,o48,ik,ik']
      rw[hv]at hI hml;have w2:ql.wrap (K*s)=K*s:=qi (by omega) (by omega);have w3:ql.wrap (sum+K*s)=sum+K*s:=qi (by omega) (by omega);simp[go_sem,e1,e2,e3,e7,e8,w1,w2,w3,hlt,o48,ik,ik'];exact Keep.mk' ⟨_,by simp[go_sem,e1],by simp[go_sem,e2],by simp[go_sem,e3],by simp[go_sem,minW],by simp[go_sem],hml,hI⟩
     by_cases o49:n.op=49
     .have hv:zZ n.op a s k K=K*s:=by simp[zZ,o49,ik,ik']
      rw[hv]at hI hml;have w2:ql.wrap (K*s)=K*s:=qi (by omega) (by omega);have w3:ql.wrap (sum+K*s)=sum+K*s:=qi (by omega) (by omega);simp[go_sem,e1,e2,e3,e7,e8,w1,w2,w3,hlt,o49,ik,ik'];exact Keep.mk' ⟨_,by simp[go_sem,e1],by simp[go_sem,e2],by simp[go_sem,e3],by simp[go_sem,minW],by simp[go_sem],hml,hI⟩
     by_cases o51:n.op=51
     .have hv:zZ n.op a s k K=K*s:=by simp[zZ,o51,ik,ik']
      rw[hv]at hI hml;have w2:ql.wrap (K*s)=K*s:=qi (by omega) (by omega);have w3:ql.wrap (sum+K*s)=sum+K*s:=qi (by omega) (by omega);simp[go_sem,e1,e2,e3,e7,e8,w1,w2,w3,hlt,o51,ik,ik'];exact Keep.mk' ⟨_,by simp[go_sem,e1],by simp[go_sem,e2],by simp[go_sem,e3],by simp[go_sem,minW],by simp[go_sem],hml,hI⟩
     have hv:zZ n.op a s k K=K:=by simp[zZ,o48,o49,o51,ik,ik']
     rw[hv]at hI hml;have w2:=w1;have w3:ql.wrap (sum+K)=sum+K:=qi (by omega) (by omega);simp[go_sem,e1,e2,e3,e7,e8,w1,w2,w3,hlt,o48,o49,o51,ik,ik'];exact Keep.mk' ⟨_,by simp[go_sem,e1],by simp[go_sem,e2],by simp[go_sem,e3],by simp[go_sem,minW],by simp[go_sem],hml,hI⟩
end FE
namespace FF
open Y1 Y9 Y16 YZ P1 YF E3 E9 Q4 Q8 QX F1 F2 FD FE
mutual
theorem VD:∀ n:Nd,depN n=(dN n:Int)
 | .mk _ _ _ ks _=>by simp only[depN,dN];rw[nE ks];omega
theorem nE:∀ ks:List Nd,yq ks=(dNs ks:Int)
 | []=>rfl
 |k :: ks=>by simp only[yq,dNs];rw[VD k,nE ks];omega
end
def wh(m:Md)(n:Nd):Bool:=zV n&&decide (wkN (sumI m.sc.atoms) m.states.length n<=3000)
theorem nF(m:Md)(g:GSc m.sc)(hs:m.states.length<=64)(n:Nd):qj qc 13 [eMd m,eNd n] (aB (wh m n)):=by
 have hv:=WA n;have hsum:=g.sum m.sc.atoms.length;rw[zw]at hsum;refine qSQ call13 func13 rfl {} ?_;simp[go_sem];refine qe.pure hv (.cons (.hf (qH n)) .nil) ?_;cases hb:zV n with
 |false =>
  simp[go_sem,wh,hb];refine qg.intro (by kernel_rfl) ?_;simp[go_sem];exact .hf _ (HF.sc _)
 |true =>
  have hw:=nD (sumI m.sc.atoms) m.states.length (by omega) (by omega) (szN n) n (qs _) (jp hb).small;simp[go_sem,wh,hb];refine qg.intro (by kernel_rfl) ?_;simp[go_sem];refine qe.pure (Yq m.sc g) (.cons (.hf (jm m.sc)) .nil) ?_;simp[go_sem];refine qe.pure hw (.cons (.hf (qH n)) (.cons (.hf (HF.sc _)) (.cons (.hf (HF.sc _)) .nil))) ?_;simp[go_sem];exact .hf _ (HF.sc _)
def smB(m:Md)(n:Nd):Bool:=wh m n&&(decide (cntN n 90<=90)&&decide (depN n<=18))
theorem nG(m:Md)(g:GSc m.sc)(hs:m.states.length<=64)(n:Nd):qj qc 25 [eMd m,eNd n] (aB (smB m n)):=by
 have hl:=nF m g hs n;have hc:=nr (szN n) n (qs _) 90 (by omega);refine qSQ call25 func25 rfl {} ?_;simp[go_sem];refine qe.pure hl (.cons (.hf (yB m)) (.cons (.hf (qH n)) .nil)) ?_;cases hb:wh m n with
 |false =>
  simp[go_sem,smB,hb];exact .hf _ (HF.sc _)
 |true =>
  have hvb:zV n=true:=by simp only[wh,qA]at hb;exact hb.1
  have hd:=nq (szN n) n (qs _) (jp hvb).small (by rw[VD];have:=vU hvb;omega);simp[go_sem,smB,hb];refine qe.pure hc (.cons (.hf (qH n)) (.cons (.hf (HF.sc _)) .nil)) ?_;by_cases h9:cntN n 90<=90
  .simp [go_sem,h9]
   refine qe.pure hd (.cons (.hf (qH n)) .nil) ?_;simp[go_sem];exact .hf _ (HF.sc _)
  .simp [go_sem,h9]
   exact .hf _ (HF.sc _)
noncomputable def fitB(ts:TS)(m:Md)(s:Int)(env:List (ByteArray×Int))(D:List Dg):Bool:=
 yp ts&&(Zs (spOf ts) m&&(dec (MVal (spOf ts) m)&&(decide (D.length=0)&&(decide (0<=s)&&(decide (s<m.states.length)&&(decide (env.length<=8)&&env.all fun e=>decide (0<=e.2)&&decide (e.2<sumI m.sc.atoms)))))))
theorem nH{p:Prop}(h:dec p=true):p:=@of_decide_eq_true p (Classical.propDecidable p) h
theorem qiY(ts:TS)(m:Md)(s:Int)(env:List (ByteArray×Int))(D:List Dg)(hD:yp ts=true->qj qc 48 [eTS ts] (lDg D)):qj qc 12 [eTS ts,eMd m,aI s,lPm env] (aB (fitB ts m s env D)):=by
 generalize hR:fitB ts m s env D=R;unfold fitB at hR;refine qSQ call12 func12 rfl {} ?_;simp[go_sem];refine qe.pure (qf4 ts) (.cons (.hf (zh ts)) .nil) ?_;cases h1:yp ts with
 |false =>
  rw[h1]at hR;replace hR:false=R:=hR;subst hR;simp[go_sem];exact .hf _ (HF.sc _)
 |true =>
  rw[h1,Bool.true_and]at hR;simp[go_sem];refine qe.pure (qfK (spOf ts) m) (.cons (.hf (zh ts)) (.cons (.hf (yB _)) .nil)) ?_;cases h2:Zs (spOf ts) m with
  |false =>
   rw[h2]at hR;replace hR:false=R:=hR;subst hR;simp[go_sem];exact .hf _ (HF.sc _)
  |true =>
   rw[h2,Bool.true_and]at hR;simp[go_sem];refine qe.pure (qfN (spOf ts) m (Wr.1 h2)) (.cons (.hf (zh ts)) (.cons (.hf (yB _)) .nil)) ?_;cases h3:dec (MVal (spOf ts) m) with
   |false =>
    rw[h3]at hR;replace hR:false=R:=hR;subst hR;simp[go_sem];exact .hf _ (HF.sc _)
   |true =>
    rw[h3,Bool.true_and]at hR;simp[go_sem];refine qe.pure (hD h1) (.cons (.hf (zh ts)) .nil) ?_;by_cases c1:0<D.length
    .rw [decide_eq_false (show ¬D.length=0 by omega)]at hR;replace hR:false=R:=hR;subst hR
     simp[go_sem,c1];exact .hf _ (HF.sc _)
    rw[decide_eq_true (show D.length=0 by omega),Bool.true_and]at hR;by_cases c2:s<0
    .rw [decide_eq_false (show ¬ 0<=s by omega)]at hR;replace hR:false=R:=hR;subst hR
     simp[go_sem,c1,c2];exact .hf _ (HF.sc _)
    rw[decide_eq_true (show 0<=s by omega),Bool.true_and]at hR;by_cases c3:(m.states.length:Int)<=s
    .rw [decide_eq_false (show ¬s<m.states.length by omega)]at hR;replace hR:false=R:=hR;subst hR
     simp[go_sem,c1,c2,c3];exact .hf _ (HF.sc _)
    rw[decide_eq_true (show s<m.states.length by omega),Bool.true_and]at hR;by_cases c4:(8:Int)<env.length
    .rw [decide_eq_false (show ¬env.length<=8 by omega)]at hR;replace hR:false=R:=hR;subst hR
     simp[go_sem,c1,c2,c3,c4];exact .hf _ (HF.sc _)
    rw[decide_eq_true (show env.length<=8 by omega),Bool.true_and]at hR;have hmv:MVal (spOf ts) m:=nH h3;have hg:GSc m.sc:=Wp hmv.sc;simp[go_sem,c1,c2,c3,c4];refine qe.pure (Yq m.sc hg) (.cons (.hf (jm m.sc)) .nil) ?_;simp[go_sem];refine qn.upK env.length (fun k st=>st.tm 3=lPm env/\st.tm 10=aI (sumI m.sc.atoms)/\st.tm 11=aI k/\((env.drop k).all fun e=>decide (0<=e.2)&&decide (e.2<sumI m.sc.atoms))=R) ?_ ?_
    .exact ⟨by simp[go_sem],by simp[go_sem],by simp[go_sem],hR⟩
    rintro k st hk ⟨e3,e10,e11,hI⟩;by_cases hlt:k<env.length
    .have w1:ql.wrap ((k:Int)+1)=(k:Int)+1:=qi (by omega) (by omega)
     rw[zi hlt,List.all_cons]at hI;by_cases d1:env[k].2<0
     .rw [decide_eq_false (show ¬ 0<=env[k].2 by omega)]at hI;replace hI:false=R:=hI;subst hI
      simp[go_sem,e3,e10,e11,hlt,d1];exact .hf _ (HF.sc _)
     rw[decide_eq_true (show 0<=env[k].2 by omega),Bool.true_and]at hI;by_cases d2:sumI m.sc.atoms<=env[k].2
     .rw [decide_eq_false (show ¬env[k].2<sumI m.sc.atoms by omega)]at hI;replace hI:false=R:=hI;subst hI
      simp[go_sem,e3,e10,e11,hlt,d1,d2];exact .hf _ (HF.sc _)
     rw[decide_eq_true (show env[k].2<sumI m.sc.atoms by omega),Bool.true_and]at hI;simp[go_sem,e3,e10,e11,hlt,d1,d2,w1];exact Keep.mk' ⟨by simp[go_sem,e3],by simp[go_sem,e10],by simp[go_sem],hI⟩
    .have hge:k=env.length:=by omega
     subst hge;rw[zN]at hI;replace hI:true=R:=hI;subst hI;simp[go_sem,e3,e10,e11];exact .hf _ (HF.sc _)
end FF
namespace FH
open YF P1 P2 Y1 Y9 Y14 YZ YG Q6 YH
theorem qiZ(ts:TS)(h:okTS ts)(hwp:∀ p,p∈ts.preds->WfN p.body)(n:Nd)(hw:WfN n)(hcall:anyN (fun n=>decide (n.op=47)) n=false):qj qc 71 [eTS ts,eNd n] (.tup [eNd (Zx ts n).1,aI (Zx ts n).2]):=by
 generalize hR:Zx ts n=R;unfold Zx at hR;refine qSQ call71 func71 rfl { mt:=[25] } ?_;simp[go_sem];refine qe.pure (qfS ts h hwp n hw [] ⟨by simp,by simp⟩) (.cons (.hf (zh ts)) (.cons (WK.lst fun r hr=>absurd hr zk) (.cons (.hf (qH n)) .nil))) ?_;simp[go_sem];by_cases hc:(jN ts [] n).1=0
 case neg =>
  rw[if_pos hc]at hR;subst hR;simp[go_sem,hc];refine qg.move 2 1 (by kernel_rfl) (by kernel_rfl) ?_ ?_
  all_goals
   simp[go_sem,hc];exact qgH _ _
 case pos =>
  rw[if_neg (by simpa using hc)]at hR;simp[go_sem,hc];have hin:∀(v:List Nd) (k:Nd) (mu:Mu),InM ts (putN [] v) (v.any fun n=>decide (n.op=47)) mu->qX qc 134 (eNd k :: [.ptr 4 0,.ptr 5 0]) mu fun e m=>e = .ret (.tup [])/\InM ts (putN [] (v++[k])) ((v++[k]).any fun n=>decide (n.op=47)) m:=fun v k mu hI=>by
   refine(qgC ts ⟨0,0⟩ 2 _ _ k hI.p hI.x hI.c hI.t).monoR ?_;rintro e m ⟨rfl,rfl⟩;refine⟨rfl,?_⟩;rw[List.any_append];simp only[putN,List.foldl_append,List.foldl_cons,List.foldl_nil,List.any_cons,List.any_nil,Bool.or_false];exact hI.setT.setC
  refine qe.eff0 (pY (caps:=[.ptr 4 0,.ptr 5 0]) (fun v mu=>InM ts (putN [] v) (v.any fun n=>decide (n.op=47)) mu) (fun v mu l h=>h.push l) hin (szN n) n (qs _) hw.small [] _ ⟨rfl,rfl,rfl,rfl,rfl⟩) ?_ (by rintro r m ⟨e,_⟩;cases e);rintro r m ⟨e,hI⟩;cases e;rw[yZ,<-WG _ (szN n) n (qs _),hcall]at hI;have hml:=hI.len;have hset:∀ c,(m.set 0 c)[0]?=some c:=fun c=>za (by omega)
  rw[if_pos hcall]at hR;subst hR;simp[go_sem,hI.c,hI.r,hset,qm];exact .hf _ (HF.tup fun c hc=>by simp at hc;rcases hc with rfl|rfl;exact qH n;exact HF.sc _)
end FH
namespace FG
open Y1 Y9 P1 YG Q6 YF E3 E4 E5 EA Q4 QB F2 FB FC FD FE
def hA:ByteArray:=⟨#[65]⟩
def hf:ByteArray:=⟨#[102]⟩
def hx:ByteArray:=⟨#[120]⟩
def hg:ByteArray:=⟨#[103]⟩
def hp:ByteArray:=⟨#[112]⟩
def hAf:ByteArray:=⟨#[65,95,102,105,114,115,116]⟩
def hAn:ByteArray:=⟨#[65,95,110,101,120,116]⟩
def nm(b:ByteArray):Nd := .mk 1 b 0 [] 0
def tsH:TS:=⟨[(hA,true)],[⟨hf,[0,0],true⟩],[],[]⟩
def mdH:Md:=⟨⟨[2],2⟩,[[⟨2,[1]⟩],[⟨2,[1,2]⟩]],1⟩
abbrev xH:Mo:=⟨tsH,mdH⟩
def zf:Nd:=nk 9 [nm hf,nm hf]
def YK:Nd:=nk 38 [nk 21 [nk 13 [nm hf]],.mk 20 ⟨#[]⟩ 3 [] 0]
def YL:Nd:=nb 45 hx (nm hA) (nk 37 [nk 9 [nm hx,nm hf]])
def YN:Nd:=nb 15 hx (nm hA) (nk 35 [nk 9 [nm hx,nm hf]])
def eqH:Nd:=nk 33 [nm hf,nk 9 [nm hAf,nm hAn]]
def untH:Nd:=nk 51 [nk 35 [zf],nk 48 [nk 34 [zf]]]
def inH:Nd:=nk 32 [nm hf,nm hA]
def W6:Nd := .mk 47 hp 0 [] 0
theorem v1:fmV ((den xH (nk 34 [zf])).F ⟨0,[]⟩)=(false,0):=by decide +kernel
theorem v2:fmV ((den xH YK).F ⟨0,[]⟩)=(true,0):=by decide +kernel
theorem v3:fmV ((den xH YL).F ⟨0,[]⟩)=(true,0):=by decide +kernel
theorem v4:(den xH YN).E ⟨0,[]⟩ = .ok ⟨1,[1]⟩:=by rfl
theorem v5:(den xH (nk 21 [nk 5 [zf]])).N ⟨0,[]⟩ = .ok 2:=by rfl
theorem v6:fmV ((den xH eqH).F ⟨0,[(hf,1)]⟩)=(true,0):=by decide +kernel
theorem v7:fmV ((den xH untH).F ⟨0,[]⟩)=(true,0):=by decide +kernel
theorem v8:(den xH (nm hg)).E ⟨0,[]⟩ = .error 40:=by rfl
theorem v9:fmV ((den xH inH).F ⟨0,[]⟩)=(false,42):=by decide +kernel
theorem v10:fmV ((den xH W6).F ⟨0,[]⟩)=(false,45):=by decide +kernel
theorem v11:(den xH (nm hf)).N ⟨0,[]⟩ = .error 43:=by rfl
theorem v12:fmV ((den xH (nk 34 [nm hf])).F ⟨0,[]⟩)=(true,0):=by decide +kernel
theorem nI:okTS tsH:=⟨by decide,by decide,by decide,by decide,fun x hx=>by
 have:x=(hA,true):=by simpa[tsH] using hx
 subst this;decide,fun f hf'=>by
 have:f=⟨hf,[0,0],true⟩:=by simpa[tsH] using hf'
 subst this;exact⟨by decide,by decide,fun x hx=>by simp at hx;subst hx;decide⟩,fun p hp=>by simp[tsH]at hp⟩
theorem okMH:OkMa xH 2:=by
 refine { len:=rfl,nx:=?_,n0:=by decide,n12:=by decide,st:=?_,at0:=?_,gsc:=⟨by decide,fun a ha=>?_⟩,pos:=fun a ha=>?_,al:=rfl,loop:=by decide,N1:=by decide,ts:=nI }
 .intro t ht
  match t,ht with
  | 0,_=>decide
  | 1,_=>decide
  |t+2,ht=>omega
 .intro s hs
  match s,hs with
  | 0,_=>exact⟨rfl,fun r hr=>by
    have:r=⟨2,[1]⟩:=by simpa[mdH] using hr
    subst this;exact WB (by decide +kernel)⟩
  | 1,_=>exact⟨rfl,fun r hr=>by
    have:r=⟨2,[1,2]⟩:=by simpa[mdH] using hr
    subst this;exact WB (by decide +kernel)⟩
  |s+2,hs=>omega
 .intro i hi
  match i,hi with
  | 0,_=>decide
  |i+1,hi=>exact absurd hi (by simp[tsH])
 .have:a=2:=by simpa[mdH] using ha
  subst this;decide
 .have:a=2:=by simpa[mdH] using ha
  subst this;decide
theorem okPH:OkP xH 2 ⟨0,[]⟩:=⟨by decide,fun e he=>by simp at he⟩
theorem nJ:OkP xH 2 ⟨0,[(hf,1)]⟩:=⟨by decide,fun e he=>by
 have:e=(hf,1):=by simpa using he
 subst this;decide⟩
theorem wS:WK (.agg [.lst true [[aS hA,aB true]],.lst true [[aS hf,.lst true [[aI 0],[aI 0]],aB true]],.lst true [],.lst true []]) (eTS tsH):=
 WK.aggs ⟨yD ⟨⟨.hf (HF.sc _),.hf (HF.sc _),trivial⟩,trivial⟩,yD ⟨⟨.hf (HF.sc _),yD ⟨⟨.hf (HF.sc _),trivial⟩,⟨.hf (HF.sc _),trivial⟩,trivial⟩,.hf (HF.sc _),trivial⟩,trivial⟩,yD trivial,yD trivial,trivial⟩
theorem wM:WK (.agg [.lst true [[aI 2]],aI 2,.lst true [[.lst true [[aI 2,.lst true [[aI 1]]]]],[.lst true [[aI 2,.lst true [[aI 1],[aI 2]]]]]],aI 1]) (eMd mdH):=
 WK.aggs ⟨yD ⟨⟨.hf (HF.sc _),trivial⟩,trivial⟩,.hf (HF.sc _),yD ⟨⟨yD ⟨⟨.hf (HF.sc _),yD ⟨⟨.hf (HF.sc _),trivial⟩,trivial⟩,trivial⟩,trivial⟩,trivial⟩,⟨yD ⟨⟨.hf (HF.sc _),yD ⟨⟨.hf (HF.sc _),trivial⟩,⟨.hf (HF.sc _),trivial⟩,trivial⟩,trivial⟩,trivial⟩,trivial⟩,trivial⟩,.hf (HF.sc _),trivial⟩
theorem wE:WK (.lst true []) (lPm []):=WK.lst fun r hr=>absurd hr zk
theorem wEv(n:Nd){env:AV}{l:List (ByteArray×Int)}(h:WK env (lPm l)):WKs [.agg [.lst true [[aS hA,aB true]],.lst true [[aS hf,.lst true [[aI 0],[aI 0]],aB true]],.lst true [],.lst true []],.agg [.lst true [[aI 2]],aI 2,.lst true [[.lst true [[aI 2,.lst true [[aI 1]]]]],[.lst true [[aI 2,.lst true [[aI 1],[aI 2]]]]]],aI 1],aI (0:Nat),env,eNd n] [eTS xH.ts,eMd xH.m,aI (0:Nat),lPm l,eNd n] := .cons wS (.cons wM (.cons (.hf (HF.sc _)) (.cons h (.cons (.hf (qH _)) .nil))))
theorem wN(op:Int)(l:List Nd):WKs [aI op,.lst true (l.map cNd)] [aI op,lNd l] := .cons (.hf (HF.sc _)) (.cons (wkNd l) .nil)
theorem wB(op:Int)(nm:ByteArray)(d f:Nd):WKs [aI op,aS nm,eNd d,eNd f] [aI op,aS nm,eNd d,eNd f] := .cons (.hf (HF.sc _)) (.cons (.hf (HF.sc _)) (.cons (.hf (qH _)) (.cons (.hf (qH _)) .nil)))
theorem evH(n:Nd)(hv:zV n=true)(p:Pl)(hp:OkP xH 2 p)(hq:p.env.length<=10)(q:Bool×Int)(e:fmV ((den xH n).F p)=q):qj qc 18 [eTS xH.ts,eMd xH.m,aI p.st,lPm p.env,eNd n] (.tup [aB q.1,aI q.2]):=by
 have h:=Yp xH 2 n (jp hv) okMH p hp (by have:=vU hv;show _+_<=_;omega);rw[Vh,e]at h;exact h
theorem wEv2{n:Nd}{nv env:AV}{l:List (ByteArray×Int)}(hn:WK nv (eNd n))(h:WK env (lPm l)):WKs [.agg [.lst true [[aS hA,aB true]],.lst true [[aS hf,.lst true [[aI 0],[aI 0]],aB true]],.lst true [],.lst true []],.agg [.lst true [[aI 2]],aI 2,.lst true [[.lst true [[aI 2,.lst true [[aI 1]]]]],[.lst true [[aI 2,.lst true [[aI 1],[aI 2]]]]]],aI 1],aI (0:Nat),env,nv] [eTS xH.ts,eMd xH.m,aI (0:Nat),lPm l,eNd n] := .cons wS (.cons wM (.cons (.hf (HF.sc _)) (.cons h (.cons hn .nil))))
theorem wEb:WK (.lst true [[aS hf,aI 1]]) (lPm [(hf,1)]):=yD ⟨⟨.hf (HF.sc _),.hf (HF.sc _),trivial⟩,trivial⟩
theorem exH(n:Nd)(hv:zV n=true)(p:Pl)(hp:OkP xH 2 p)(hq:p.env.length<=10)(q:XE Rl)(e:(den xH n).E p=q):qj qc 14 [eTS xH.ts,eMd xH.m,aI p.st,lPm p.env,eNd n] (outE q):=by
 have h:=pw xH 2 n (jp hv) okMH p hp (by have:=vU hv;show _+_<=_;omega);rw[e]at h;exact h
theorem inHU(n:Nd)(hv:zV n=true)(p:Pl)(hp:OkP xH 2 p)(hq:p.env.length<=10)(q:XE Int)(e:(den xH n).N p=q):qj qc 16 [eTS xH.ts,eMd xH.m,aI p.st,lPm p.env,eNd n] (outN q):=by
 have h:=intP xH 2 n (jp hv) okMH p hp (by have:=vU hv;show _+_<=_;omega);rw[e]at h;exact h
@[go_sem] theorem outE_ok(r:Rl):outE (.ok r) = .tup [eRel r,aI 0]:=rfl
@[go_sem] theorem outE_err(e:Int):outE (.error e) = .tup [eRel ⟨0,[]⟩,aI e]:=rfl
@[go_sem] theorem outN_ok(r:Int):outN (.ok r) = .tup [aI r,aI 0]:=rfl
@[go_sem] theorem outN_err(e:Int):outN (.error e) = .tup [aI 0,aI e]:=rfl
theorem v13:Zx tsH (nk 34 [nm hf])=(nk 34 [nm hf],0):=by
 have h:(jN tsH [] (nk 34 [nm hf])).1=0:=by decide +kernel
 have h2:anyN (fun n=>decide (n.op=47)) (nk 34 [nm hf])=false:=by decide +kernel
 unfold Zx;rw[if_neg (by simpa using h),if_pos h2]
theorem hoH:qj qc 23 [eTS xH.ts,eMd xH.m,eNd (nk 34 [nm hf])] (.tup [aB true,aI 0]):=by
 have hi:=FH.qiZ tsH nI (fun p hp=>by simp[tsH]at hp) (nk 34 [nm hf]) (jp (by decide +kernel)) (by decide +kernel);rw[v13]at hi;have h:=qfC xH 2 okMH (by decide) (fun b=>(b,0)) (nk 34 [nm hf]) (by decide) fun b hb=>by
  have:b=nk 34 [nm hf]:=by simpa[tsH] using hb
  subst this;exact⟨hi,fun _=>⟨jp (by decide +kernel),by decide +kernel⟩⟩
 have e:uu (fun b=>(b,0)) xH (xH.ts.facts.map Prod.snd++[nk 34 [nm hf]]) true=(true,0):=by
  show uu (fun b=>(b,0)) xH [nk 34 [nm hf]] true=(true,0);simp only[uu,v12];rfl
 rw[e]at h;exact h
theorem wHo:WKs [.agg [.lst true [[aS hA,aB true]],.lst true [[aS hf,.lst true [[aI 0],[aI 0]],aB true]],.lst true [],.lst true []],.agg [.lst true [[aI 2]],aI 2,.lst true [[.lst true [[aI 2,.lst true [[aI 1]]]]],[.lst true [[aI 2,.lst true [[aI 1],[aI 2]]]]]],aI 1],eNd (nk 34 [nm hf])] [eTS xH.ts,eMd xH.m,eNd (nk 34 [nm hf])] := .cons wS (.cons wM (.cons (.hf (qH _)) .nil))
theorem eqHU:qj qc 20 [eRel ⟨1,[1]⟩,eRel ⟨1,[1]⟩] (aB true):=US ⟨1,[1]⟩ ⟨1,[1]⟩ (by decide)
theorem W7:qj qc 11 [] (aB true):=by
 refine qSQ call11 func11 rfl {} ?_;simp[go_sem]
 first|refine qe.pure (y8 hf) (.cons (.hf (HF.sc _)) .nil) ?_ | (refine qg.intro (by kernel_rfl) ?_;simp[go_sem];refine qe.pure (y8 hf) (.cons (.hf (HF.sc _)) .nil) ?_)
 simp[go_sem,qm]
 first|refine qe.pure (qJ 9 [nm hf,nm hf]) (wN 9 [nm hf,nm hf]) ?_ | (refine qg.intro (by kernel_rfl) ?_;simp[go_sem];refine qe.pure (qJ 9 [nm hf,nm hf]) (wN 9 [nm hf,nm hf]) ?_)
 simp[go_sem,qm]
 first|refine qe.pure (qJ 13 [nm hf]) (wN 13 [nm hf]) ?_ | (refine qg.intro (by kernel_rfl) ?_;simp[go_sem];refine qe.pure (qJ 13 [nm hf]) (wN 13 [nm hf]) ?_)
 simp[go_sem,qm]
 first|refine qe.pure (qJ 21 [nk 13 [nm hf]]) (wN 21 [nk 13 [nm hf]]) ?_ | (refine qg.intro (by kernel_rfl) ?_;simp[go_sem];refine qe.pure (qJ 21 [nk 13 [nm hf]]) (wN 21 [nk 13 [nm hf]]) ?_)
 simp[go_sem,qm]
 first|refine qe.pure (qJ 38 [nk 21 [nk 13 [nm hf]],.mk 20 ⟨#[]⟩ 3 [] 0]) (.cons (.hf (HF.sc _)) (.cons (yD ⟨Vt (vw (nk 21 [nk 13 [nm hf]])),WL 20 ⟨#[]⟩ 3 0 (yD trivial),trivial⟩) .nil)) ?_ | (refine qg.intro (by kernel_rfl) ?_;simp[go_sem];refine qe.pure (qJ 38 [nk 21 [nk 13 [nm hf]],.mk 20 ⟨#[]⟩ 3 [] 0]) (.cons (.hf (HF.sc _)) (.cons (yD ⟨Vt (vw (nk 21 [nk 13 [nm hf]])),WL 20 ⟨#[]⟩ 3 0 (yD trivial),trivial⟩) .nil)) ?_)
 simp[go_sem,qm]
 first|refine qe.pure (y8 hA) (.cons (.hf (HF.sc _)) .nil) ?_ | (refine qg.intro (by kernel_rfl) ?_;simp[go_sem];refine qe.pure (y8 hA) (.cons (.hf (HF.sc _)) .nil) ?_)
 simp[go_sem,qm]
 first|refine qe.pure (y8 hx) (.cons (.hf (HF.sc _)) .nil) ?_ | (refine qg.intro (by kernel_rfl) ?_;simp[go_sem];refine qe.pure (y8 hx) (.cons (.hf (HF.sc _)) .nil) ?_)
 simp[go_sem,qm]
 first|refine qe.pure (qJ 9 [nm hx,nm hf]) (wN 9 [nm hx,nm hf]) ?_ | (refine qg.intro (by kernel_rfl) ?_;simp[go_sem];refine qe.pure (qJ 9 [nm hx,nm hf]) (wN 9 [nm hx,nm hf]) ?_)
 simp[go_sem,qm]
 first|refine qe.pure (qJ 37 [nk 9 [nm hx,nm hf]]) (wN 37 [nk 9 [nm hx,nm hf]]) ?_ | (refine qg.intro (by kernel_rfl) ?_;simp[go_sem];refine qe.pure (qJ 37 [nk 9 [nm hx,nm hf]]) (wN 37 [nk 9 [nm hx,nm hf]]) ?_)
 simp[go_sem,qm]
 first|refine qe.pure (vX 45 hx (nm hA) (nk 37 [nk 9 [nm hx,nm hf]])) (wB 45 hx (nm hA) (nk 37 [nk 9 [nm hx,nm hf]])) ?_ | (refine qg.intro (by kernel_rfl) ?_;simp[go_sem];refine qe.pure (vX 45 hx (nm hA) (nk 37 [nk 9 [nm hx,nm hf]])) (wB 45 hx (nm hA) (nk 37 [nk 9 [nm hx,nm hf]])) ?_)
 simp[go_sem,qm]
 first|refine qe.pure (y8 hA) (.cons (.hf (HF.sc _)) .nil) ?_ | (refine qg.intro (by kernel_rfl) ?_;simp[go_sem];refine qe.pure (y8 hA) (.cons (.hf (HF.sc _)) .nil) ?_)
 simp[go_sem,qm]
 first|refine qe.pure (y8 hx) (.cons (.hf (HF.sc _)) .nil) ?_ | (refine qg.intro (by kernel_rfl) ?_;simp[go_sem];refine qe.pure (y8 hx) (.cons (.hf (HF.sc _)) .nil) ?_)
 simp[go_sem,qm]
 first|refine qe.pure (qJ 9 [nm hx,nm hf]) (wN 9 [nm hx,nm hf]) ?_ | (refine qg.intro (by kernel_rfl) ?_;simp[go_sem];refine qe.pure (qJ 9 [nm hx,nm hf]) (wN 9 [nm hx,nm hf]) ?_)
 simp[go_sem,qm]
 first|refine qe.pure (qJ 35 [nk 9 [nm hx,nm hf]]) (wN 35 [nk 9 [nm hx,nm hf]]) ?_ | (refine qg.intro (by kernel_rfl) ?_;simp[go_sem];refine qe.pure (qJ 35 [nk 9 [nm hx,nm hf]]) (wN 35 [nk 9 [nm hx,nm hf]]) ?_)
 simp[go_sem,qm]
 first|refine qe.pure (vX 15 hx (nm hA) (nk 35 [nk 9 [nm hx,nm hf]])) (wB 15 hx (nm hA) (nk 35 [nk 9 [nm hx,nm hf]])) ?_ | (refine qg.intro (by kernel_rfl) ?_;simp[go_sem];refine qe.pure (vX 15 hx (nm hA) (nk 35 [nk 9 [nm hx,nm hf]])) (wB 15 hx (nm hA) (nk 35 [nk 9 [nm hx,nm hf]])) ?_)
 simp[go_sem,qm]
 first|refine qe.pure (qJ 34 [zf]) (wN 34 [zf]) ?_ | (refine qg.intro (by kernel_rfl) ?_;simp[go_sem];refine qe.pure (qJ 34 [zf]) (wN 34 [zf]) ?_)
 simp[go_sem,qm]
 first|refine qe.pure (evH (nk 34 [zf]) (by decide +kernel) ⟨0,[]⟩ okPH (by decide) (false,0) v1) (wEv (nk 34 [zf]) wE) ?_ | (refine qg.intro (by kernel_rfl) ?_;simp[go_sem];refine qe.pure (evH (nk 34 [zf]) (by decide +kernel) ⟨0,[]⟩ okPH (by decide) (false,0) v1) (wEv (nk 34 [zf]) wE) ?_)
 simp[go_sem,qm]
 first|refine qe.pure (evH (YK) (by decide +kernel) ⟨0,[]⟩ okPH (by decide) (true,0) v2) (wEv (YK) wE) ?_ | (refine qg.intro (by kernel_rfl) ?_;simp[go_sem];refine qe.pure (evH (YK) (by decide +kernel) ⟨0,[]⟩ okPH (by decide) (true,0) v2) (wEv (YK) wE) ?_)
 simp[go_sem,qm]
 first|refine qe.pure (evH (YL) (by decide +kernel) ⟨0,[]⟩ okPH (by decide) (true,0) v3) (wEv (YL) wE) ?_ | (refine qg.intro (by kernel_rfl) ?_;simp[go_sem];refine qe.pure (evH (YL) (by decide +kernel) ⟨0,[]⟩ okPH (by decide) (true,0) v3) (wEv (YL) wE) ?_)
 simp[go_sem,qm]
 first|refine qe.pure (exH (YN) (by decide +kernel) ⟨0,[]⟩ okPH (by decide) _ v4) (wEv YN wE) ?_ | (refine qg.intro (by kernel_rfl) ?_;simp[go_sem];refine qe.pure (exH (YN) (by decide +kernel) ⟨0,[]⟩ okPH (by decide) _ v4) (wEv YN wE) ?_)
 simp[go_sem,qm]
 first|refine qe.pure (qJ 5 [zf]) (wN 5 [zf]) ?_ | (refine qg.intro (by kernel_rfl) ?_;simp[go_sem];refine qe.pure (qJ 5 [zf]) (wN 5 [zf]) ?_)
 simp[go_sem,qm]
 first|refine qe.pure (qJ 21 [nk 5 [zf]]) (wN 21 [nk 5 [zf]]) ?_ | (refine qg.intro (by kernel_rfl) ?_;simp[go_sem];refine qe.pure (qJ 21 [nk 5 [zf]]) (wN 21 [nk 5 [zf]]) ?_)
 simp[go_sem,qm]
 first|refine qe.pure (inHU (nk 21 [nk 5 [zf]]) (by decide +kernel) ⟨0,[]⟩ okPH (by decide) _ v5) (wEv (nk 21 [nk 5 [zf]]) wE) ?_ | (refine qg.intro (by kernel_rfl) ?_;simp[go_sem];refine qe.pure (inHU (nk 21 [nk 5 [zf]]) (by decide +kernel) ⟨0,[]⟩ okPH (by decide) _ v5) (wEv (nk 21 [nk 5 [zf]]) wE) ?_)
 simp[go_sem,qm]
 first|refine qe.pure (y8 hAf) (.cons (.hf (HF.sc _)) .nil) ?_ | (refine qg.intro (by kernel_rfl) ?_;simp[go_sem];refine qe.pure (y8 hAf) (.cons (.hf (HF.sc _)) .nil) ?_)
 simp[go_sem,qm]
 first|refine qe.pure (y8 hAn) (.cons (.hf (HF.sc _)) .nil) ?_ | (refine qg.intro (by kernel_rfl) ?_;simp[go_sem];refine qe.pure (y8 hAn) (.cons (.hf (HF.sc _)) .nil) ?_)
 simp[go_sem,qm]
 first|refine qe.pure (qJ 9 [nm hAf,nm hAn]) (wN 9 [nm hAf,nm hAn]) ?_ | (refine qg.intro (by kernel_rfl) ?_;simp[go_sem];refine qe.pure (qJ 9 [nm hAf,nm hAn]) (wN 9 [nm hAf,nm hAn]) ?_)
 simp[go_sem,qm]
 first|refine qe.pure (qJ 33 [nm hf,nk 9 [nm hAf,nm hAn]]) (wN 33 [nm hf,nk 9 [nm hAf,nm hAn]]) ?_ | (refine qg.intro (by kernel_rfl) ?_;simp[go_sem];refine qe.pure (qJ 33 [nm hf,nk 9 [nm hAf,nm hAn]]) (wN 33 [nm hf,nk 9 [nm hAf,nm hAn]]) ?_)
 simp[go_sem,qm]
 first|refine qe.pure (evH (eqH) (by decide +kernel) ⟨0,[(hf,1)]⟩ nJ (by decide) (true,0) v6) (wEv (eqH) wEb) ?_ | (refine qg.intro (by kernel_rfl) ?_;simp[go_sem];refine qe.pure (evH (eqH) (by decide +kernel) ⟨0,[(hf,1)]⟩ nJ (by decide) (true,0) v6) (wEv (eqH) wEb) ?_)
 simp[go_sem,qm]
 first|refine qe.pure (qJ 35 [zf]) (wN 35 [zf]) ?_ | (refine qg.intro (by kernel_rfl) ?_;simp[go_sem];refine qe.pure (qJ 35 [zf]) (wN 35 [zf]) ?_)
 simp[go_sem,qm]
 first|refine qe.pure (qJ 34 [zf]) (wN 34 [zf]) ?_ | (refine qg.intro (by kernel_rfl) ?_;simp[go_sem];refine qe.pure (qJ 34 [zf]) (wN 34 [zf]) ?_)
 simp[go_sem,qm]
 first|refine qe.pure (qJ 48 [nk 34 [zf]]) (wN 48 [nk 34 [zf]]) ?_ | (refine qg.intro (by kernel_rfl) ?_;simp[go_sem];refine qe.pure (qJ 48 [nk 34 [zf]]) (wN 48 [nk 34 [zf]]) ?_)
 simp[go_sem,qm]
 first|refine qe.pure (qJ 51 [nk 35 [zf],nk 48 [nk 34 [zf]]]) (wN 51 [nk 35 [zf],nk 48 [nk 34 [zf]]]) ?_ | (refine qg.intro (by kernel_rfl) ?_;simp[go_sem];refine qe.pure (qJ 51 [nk 35 [zf],nk 48 [nk 34 [zf]]]) (wN 51 [nk 35 [zf],nk 48 [nk 34 [zf]]]) ?_)
 simp[go_sem,qm]
 first|refine qe.pure (evH (untH) (by decide +kernel) ⟨0,[]⟩ okPH (by decide) (true,0) v7) (wEv (untH) wE) ?_ | (refine qg.intro (by kernel_rfl) ?_;simp[go_sem];refine qe.pure (evH (untH) (by decide +kernel) ⟨0,[]⟩ okPH (by decide) (true,0) v7) (wEv (untH) wE) ?_)
 simp[go_sem,qm]
 first|refine qe.pure (y8 hg) (.cons (.hf (HF.sc _)) .nil) ?_ | (refine qg.intro (by kernel_rfl) ?_;simp[go_sem];refine qe.pure (y8 hg) (.cons (.hf (HF.sc _)) .nil) ?_)
 simp[go_sem,qm]
 first|refine qe.pure (exH (nm hg) (by decide +kernel) ⟨0,[]⟩ okPH (by decide) _ v8) (wEv (nm hg) wE) ?_ | (refine qg.intro (by kernel_rfl) ?_;simp[go_sem];refine qe.pure (exH (nm hg) (by decide +kernel) ⟨0,[]⟩ okPH (by decide) _ v8) (wEv (nm hg) wE) ?_)
 simp[go_sem,qm]
 first|refine qe.pure (y8 hA) (.cons (.hf (HF.sc _)) .nil) ?_ | (refine qg.intro (by kernel_rfl) ?_;simp[go_sem];refine qe.pure (y8 hA) (.cons (.hf (HF.sc _)) .nil) ?_)
 simp[go_sem,qm]
 first|refine qe.pure (qJ 32 [nm hf,nm hA]) (wN 32 [nm hf,nm hA]) ?_ | (refine qg.intro (by kernel_rfl) ?_;simp[go_sem];refine qe.pure (qJ 32 [nm hf,nm hA]) (wN 32 [nm hf,nm hA]) ?_)
 simp[go_sem,qm]
 first|refine qe.pure (evH (inH) (by decide +kernel) ⟨0,[]⟩ okPH (by decide) (false,42) v9) (wEv (inH) wE) ?_ | (refine qg.intro (by kernel_rfl) ?_;simp[go_sem];refine qe.pure (evH (inH) (by decide +kernel) ⟨0,[]⟩ okPH (by decide) (false,42) v9) (wEv (inH) wE) ?_)
 simp[go_sem,qm]
 first|refine qe.pure (evH W6 (by decide +kernel) ⟨0,[]⟩ okPH (by decide) (false,45) v10) (wEv2 (gq 47 hp 0 0 (yD trivial)) wE) ?_ | (refine qg.intro (by kernel_rfl) ?_;simp[go_sem];refine qe.pure (evH W6 (by decide +kernel) ⟨0,[]⟩ okPH (by decide) (false,45) v10) (wEv2 (gq 47 hp 0 0 (yD trivial)) wE) ?_)
 simp[go_sem,qm]
 first|refine qe.pure (inHU (nm hf) (by decide +kernel) ⟨0,[]⟩ okPH (by decide) _ v11) (wEv (nm hf) wE) ?_ | (refine qg.intro (by kernel_rfl) ?_;simp[go_sem];refine qe.pure (inHU (nm hf) (by decide +kernel) ⟨0,[]⟩ okPH (by decide) _ v11) (wEv (nm hf) wE) ?_)
 simp[go_sem,qm]
 first|refine qe.pure (qJ 34 [nm hf]) (wN 34 [nm hf]) ?_ | (refine qg.intro (by kernel_rfl) ?_;simp[go_sem];refine qe.pure (qJ 34 [nm hf]) (wN 34 [nm hf]) ?_)
 simp[go_sem,qm]
 first|refine qe.pure (hoH) (wHo) ?_ | (refine qg.intro (by kernel_rfl) ?_;simp[go_sem];refine qe.pure (hoH) (wHo) ?_)
 simp[go_sem,qm]
 first|refine qe.pure (eqHU) (.cons (.hf (qR ⟨1,[1]⟩)) (.cons (WK.aggs ⟨.hf (HF.sc _),yD ⟨⟨.hf (HF.sc _),trivial⟩,trivial⟩,trivial⟩) .nil)) ?_ | (refine qg.intro (by kernel_rfl) ?_;simp[go_sem];refine qe.pure (eqHU) (.cons (.hf (qR ⟨1,[1]⟩)) (.cons (WK.aggs ⟨.hf (HF.sc _),yD ⟨⟨.hf (HF.sc _),trivial⟩,trivial⟩,trivial⟩) .nil)) ?_)
 simp[go_sem,qm];exact .hf _ (HF.sc _)
end FG
namespace FI
open Y1 Y16 P1 P2 YF E3 E5 E9 EA Q4 Q8 QU F1 F2 FD FE FF FG
abbrev bigS(ts:TS):Prop:=∀ x,x∈ts.sorts->x.1.size<=4611686018427387904
theorem VE{ts:TS}(hs:bigS ts)(m:Md)(s:Int)(env:List (ByteArray×Int)):qj qc 12 [eTS ts,eMd m,aI s,lPm env] (aB (fitB ts m s env (uw ts))):=qiY ts m s env (uw ts) fun hf=>by
 obtain⟨ok,wp,wf⟩:=pP hf hs;simp only[yp,qA,qC]at hf;exact qiU ts ok wp wf (fun p hp=>by rw[VD];have:=vU (hf.2.2.1 p hp).2;omega) (fun f hf'=>by rw[VD];have:=vU (hf.2.2.2 f hf');omega)
structure FitP (ts:TS) (m:Md) (s:Nat) (env:List (ByteArray×Int)):Prop where
 ma:OkMa ⟨ts,m⟩ m.states.length
 p:OkP ⟨ts,m⟩ m.states.length ⟨s,env⟩
 el:env.length<=8
 st:m.states.length<=4
theorem VF{ts:TS}(hs:bigS ts){m:Md}{s:Int}{env:List (ByteArray×Int)}(h:fitB ts m s env (uw ts)=true):∃ k:Nat,s=k/\FitP ts m k env:=by
 simp only[fitB,qA,decide_eq_true_eq,qC]at h;obtain⟨h1,h2,h3,h4,h5,h6,h7,h8⟩:=h;obtain⟨k,rfl⟩:=Int.eq_ofNat_of_zero_le h5;have hv:=nH h3;have hsc:=hv.sc;simp only[jQ,qA,decide_eq_true_eq,qC]at hsc;have:=hv.ns;refine⟨k,rfl,qf7 (pP h1 hs).1 hv,⟨by show k<m.states.length;omega,fun e he=>h8 e he⟩,h7,by omega⟩
theorem wf1{op:Int}{f:Nd}(hw:WfN f)(h:shp op 1=some [kd f.op])(h2:op≠2)(nm:ByteArray):WfN (.mk op nm 0 [f] 0) := .mk _ h (fun e=>absurd e h2) fun k hk=>by
 have:k=f:=by simpa[Nd.kids] using hk
 subst this;exact hw
theorem wf2{op:Int}{f g:Nd}(hw:WfN f)(hg:WfN g)(h:shp op 2=some [kd f.op,kd g.op])(h2:op≠2)(nm:ByteArray):WfN (.mk op nm 0 [f,g] 0) := .mk _ h (fun e=>absurd e h2) fun k hk=>by
 have:k=f\/k=g:=by simpa[Nd.kids] using hk
 rcases this with rfl|rfl
 .exact hw
 .exact hg
theorem dn1(op:Int)(nm:ByteArray)(f:Nd):dN (.mk op nm 0 [f] 0)=dN f+1:=by simp[dN,dNs]
theorem dn2(op:Int)(nm:ByteArray)(f g:Nd):dN (.mk op nm 0 [f,g] 0)=max (dN f) (dN g)+1:=by simp[dN,dNs]
theorem VG{m:Md}{n:Nd}(h:smB m n=true):zV n=true:=by
 simp only[smB,wh,qA]at h;exact h.1.1
theorem wkS(m:Md)(n:Nd):WKs [eMd m,eNd n] [eMd m,eNd n] := .cons (.hf (yB m)) (.cons (.hf (qH n)) .nil)
theorem wk1(n:Nd):WKs [eNd n] [eNd n] := .cons (.hf (qH n)) .nil
theorem wk6(x:Mo)(p:Pl)(a b:Nd):WKs [eTS x.ts,eMd x.m,aI p.st,lPm p.env,eNd a,eNd b] [eTS x.ts,eMd x.m,aI p.st,lPm p.env,eNd a,eNd b] := .cons (.hf (zh _)) (.cons (.hf (yB _)) (.cons (.hf (HF.sc _)) (.cons (.hf (yJ _)) (.cons (.hf (qH _)) (.cons (.hf (qH _)) .nil)))))
structure OkF (F:Nat) (n:Nd):Prop where
 w:WfN n
 d:dN n<=F
 k:kd n.op=102
theorem YO{ts:TS}{m:Md}{k:Nat}{env:List (ByteArray×Int)}(F:FitP ts m k env){a b:Nd}(ha:OkF 100 a)(hb:OkF 100 b)(e:(den ⟨ts,m⟩ a).F ⟨k,env⟩=(den ⟨ts,m⟩ b).F ⟨k,env⟩):qj qc 29 [eTS ts,eMd m,aI k,lPm env,eNd a,eNd b] (aB true):=by
 have h:=qiW ⟨ts,m⟩ _ F.ma ⟨k,env⟩ F.p a b ha.w hb.w (by have:=ha.d;have:=F.el;show _+_<=_;simp only;omega) (by have:=hb.d;have:=F.el;show _+_<=_;simp only;omega);rw[e]at h;have hr:∀ q:Bool×Int,samB q q=true:=fun q=>by simp[samB]
 rw[hr]at h;exact h
theorem okf1{N:Nat}{op:Int}{f:Nd}(hf:OkF N f)(h:shp op 1=some [102])(hk:kd op=102)(h2:op≠2):OkF (N+1) (nk op [f]):=⟨wf1 hf.w (by rw[hf.k];exact h) h2 _,by rw[dn1];have:=hf.d;omega,hk⟩
theorem okf2{N:Nat}{op:Int}{f g:Nd}(hf:OkF N f)(hg:OkF N g)(h:shp op 2=some [102,102])(hk:kd op=102)(h2:op≠2):OkF (N+1) (nk op [f,g]):=⟨wf2 hf.w hg.w (by rw[hf.k,hg.k];exact h) h2 _,by rw[dn2];have:=hf.d;have:=hg.d;omega,hk⟩
theorem jq{N M:Nat}{n:Nd}(h:OkF N n)(hl:N<=M):OkF M n:=⟨h.w,by have:=h.d;omega,h.k⟩
end FI
end Go.Proofs.YtkglmpmlfjogkaaGreatDoor
