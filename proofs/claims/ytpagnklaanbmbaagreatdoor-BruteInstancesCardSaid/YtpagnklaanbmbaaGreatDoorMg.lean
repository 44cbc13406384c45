/-
  Own library, part 7: an abstract reading of values and a calculus over it; contracts of functions; plain lemmas.
-/
import Derived.Test.YtpagnklaanbmbaaGreatDoorRows
import Derived.LaidMore
import Derived.MakeChecks
import Derived.WalkKit
import Derived.JoinedCond
import Derived.Test.YtpagnklaanbmbaaGreatDoorMf
set_option linter.unusedVariables false
set_option linter.unusedSimpArgs false
set_option maxRecDepth 100000
open Go.Proofs.Tryz renaming prog->qc
open Go.IntKind renaming i64->qi
open List renaming getElem?_eq_some_iff->qj,mem_map->qp,range->qt,mem_cons->qw,getElem?_append_left->qx,getElem_mem->qy,getElem?_eq_getElem->qz,mem_append->qG,all_eq_true->qH,not_mem_nil->qI,mem_singleton->qN,mem_cons_of_mem->qO,mem_cons_self->qU,getElem?_append_right->qV,length_append->qX,take_length->q8,getD_eq_getElem?_getD->za,append_assoc->zc,map_append->zg,getElem?_set_ne->zo,getElem?_map->zp,getElem?_set_self->zr,length_cons->zu,drop_eq_getElem_cons->zG,length_map->zH,take_of_length_le->zN,append_nil->zO,cons_append->yD,getElem?_eq_none->yF,drop_length->yH,mem_filter->y9,take_succ_eq_append_getElem->jH,getElem?_cons_succ->ve,nil_append->vf,mem_iff_getElem->vE,flatMap_cons->wB,getElem_map->Zt,getElem_of_mem->Zu,drop_eq_nil_of_le->YP,length_pos_iff->VR
open Bool renaming and_eq_true->qr
open Nat renaming le_refl->qs,lt_succ_iff_lt_or_eq->Qg
open Int renaming le_refl->jw,mul_le_mul->vh,tmod_eq_emod_of_nonneg->u4
namespace Go.Proofs.YtpagnklaanbmbaaGreatDoor
open Go Go.Ev Go.Proofs Tryz
namespace QU
open YF Y9 Y10 Y1 Y2 Y15 Y16 YZ P1 P2 PA QD QI QK QT
theorem qj0{ts:TS}{i:Nat}(o:i<ts.preds.length):(∃ p:Nat,zf (ckR ts i) ts.preds[i].name=some p/\(ts.preds.take i).any (fun y=>eP ts.preds[i] y)=true)\/(zf (ckR ts i) ts.preds[i].name=none/\(ts.preds.take i).any (fun y=>eP ts.preds[i] y)=false):=by
 cases h:zf (ckR ts i) ts.preds[i].name with
 |some p =>
  left;refine⟨p,rfl,?_⟩;unfold zf at h;rw[List.findIdx?_eq_some_iff_getElem]at h;obtain⟨j,g,_⟩:=h;refine List.any_eq_true.2 ⟨_,qy j,?_⟩;have g:decide ((ts.preds.take i)[p].name=ts.preds[i].name)=true:=g;have g:(ts.preds.take i)[p].name=ts.preds[i].name:=by simpa using g
  exact decide_eq_true g.symm
 |none =>
  right;refine⟨rfl,?_⟩;unfold zf at h;rw[List.findIdx?_eq_none_iff]at h;rw[List.any_eq_false];intro x l;have:=h x l;have:¬x.name=ts.preds[i].name:=by simpa using this
  simpa using fun e:ts.preds[i].name=x.name=>this e.symm
theorem rdDg{lo:Nat}{mu:Mu}{av:AV}{xs:List Dg}(h:OwnF lo mu 2 av (xs.map cDg)):Rd mu av (lDg xs):=by
 refine h.1.rd (zj.ok fun r i=>?_) fun r i c g=>?_
 .obtain ⟨n,_,rfl⟩:=qp.1 i
  exact⟨rfl,rfl⟩
 .obtain ⟨n,_,rfl⟩:=qp.1 i
  rcases qw.1 g with rfl|g
  .exact HF.sc _
  .rw [qN]at g;subst g;exact HF.sc _
theorem Zq{lo sz:Nat}{mu:Mu}{av:AV}{xs:List (List AV)}(h:OwnF lo mu sz av xs)(c:Cell):OwnF lo (mu++[c]) sz av xs:=⟨Wa h.1 c,h.2.1,by have:=h.2.2;simp;omega⟩
theorem qj1(ts:TS)(h:okTS ts)(wp:∀ p,p∈ts.preds->WfN p.body)(i:Nat)(I:i<ts.preds.length)(hd:depN ts.preds[i].body<=24):qe qc 135 [eTS ts,aI i] (lDg (jR ts i)):=by
 have a5:=h.pl _ (qy I);have ag:=h.np;have c1:=mn ts h wp i (by omega) ts.preds[i].params ⟨by omega,a5.2⟩ (by omega) ts.preds[i].body (wp _ (qy I)) hd;have c2:=YI (ckR ts i) (VI h (by omega)) ts.preds[i].name;have a6:=qj0 I;have hp:jR ts i=dups [(ts.preds.take i).any (fun y=>eP ts.preds[i] y)]++(dups (repL eM ts.preds[i].params)++rp (jP (mkCk ts i) ts.preds[i].params ts.preds[i].body)):=by
  unfold jR;rw[qz I];simp only;rw[gw,qz I]
 rw[hp];generalize hD:jP (mkCk ts i) ts.preds[i].params ts.preds[i].body=D at *
 generalize hb:(ts.preds.take i).any (fun y=>eP ts.preds[i] y)=b at *
 have ah:(dups [b]).length<=1:=by cases b<;>simp[dups]
 refine qSV call135 func135 rfl ?_;simp[go_sem];refine qm.intro (by kernel_rfl) ?_;simp[go_sem,I];refine qd.pure c2 (.cons (.hf (zq _)) (.cons (.hf (HF.sc _)) (.cons (.hf (HF.sc _)) .nil))) ?_;have wk:WKs [eTS ts,aI i,lPm ts.preds[i].params,eNd ts.preds[i].body] [eTS ts,aI i,lPm ts.preds[i].params,eNd ts.preds[i].body] := .cons (.hf (zq _)) (.cons (.hf (HF.sc _)) (.cons (.hf (Z8 _)) (.cons (.hf (ze _)) .nil)));have af:=JW;have fin:∀ st:St,True:=fun _=>trivial
 rcases a6 with ⟨p,hc,a0⟩|⟨hc,a0⟩
 case' inl =>
  subst a0;rw[hc];have a7:(0:Int)<=(p:Int):=by omega
  simp[go_sem,idxO,a7];refine uX (lo:=0) (xs:=[]) (ys:=[(41,0)]) (OwnF.nil (by simp)) (by simp[qM]) (by simp) fun ai m0 a8 _=>?_
  simp[go_sem,I]
 case' inr =>
  subst a0;rw[hc];simp[go_sem,idxO,I]
 all_goals
  generalize a9:ts.preds[i]=l at *
 case' inl =>
  refine qk.upK l.params.length (fun k st=>st.tm 2 = .ip (cTS ts)/\st.tm 1=aI i/\st.tm 6=lPm l.params/\st.tm 7=aI k/\OwnF 0 st.mu 2 (st.tm 5) ((dups [true]++dups ((repL eM l.params).take k)).map cDg)) ?_ ?_
  .exact ⟨by simp[go_sem],by simp[go_sem],by simp[go_sem],by simp[go_sem],by simpa[go_sem,dups] using a8⟩
 case' inr =>
  refine qk.upK l.params.length (fun k st=>st.tm 2 = .ip (cTS ts)/\st.tm 1=aI i/\st.tm 6=lPm l.params/\st.tm 7=aI k/\OwnF 0 st.mu 2 (st.tm 5) ((dups [false]++dups ((repL eM l.params).take k)).map cDg)) ?_ ?_
  .exact ⟨by simp[go_sem],by simp[go_sem],by simp[go_sem],by simp[go_sem],by simp[go_sem,dups];exact OwnF.nil (by simp)⟩
 all_goals
  rintro k st hk ⟨e2,e1,e6,e7,ho⟩;have a4:(dups ((repL eM l.params).take k)).length<=k:=Nat.le_trans (Y16.ue _) (List.length_take_le ..);generalize h5:st.tm 5=P at *
  by_cases C:k<l.params.length
  .have a1:=Xv eM l.params k C
   have wi:qi.wrap ((k:Int)+1)=(k:Int)+1:=qg (by omega) (by omega);simp[go_sem,e6,e7,C];refine qk.upK k (fun j st2=>st2.tm 2 = .ip (cTS ts)/\st2.tm 1=aI i/\st2.tm 6=lPm l.params/\st2.tm 7=aI k/\st2.tm 5=P/\st2.tm 9=aI j/\st2.tm 8=aB ((l.params.take j).any fun y=>eM l.params[k] y)/\st2.mu=st.mu) ?_ ?_
   .exact ⟨by simp[go_sem,e2],by simp[go_sem,e1],by simp[go_sem,e6],by simp[go_sem,e7],by simp[go_sem,h5],by simp[go_sem],by simp[go_sem],by simp[go_sem]⟩
   rintro j st2 hj ⟨f2,f1,f6,f7,f5,f9,f8,fm⟩;generalize hT:(l.params.take j).any (fun y=>eM l.params[k] y)=T at *
   by_cases J:j<k
   .have a2:j<l.params.length:=by omega
    have wj:qi.wrap ((j:Int)+1)=(j:Int)+1:=qg (by omega) (by omega);have o:=VJ (fun y=>eM l.params[k] y) l.params j a2;rw[hT]at o;simp[go_sem,f7,f9,J];refine qm.intro (by kernel_rfl) ?_;cases T with
    |true =>
     rw[Bool.true_or]at o;simp[go_sem,f9,f8,J,wj];exact Keep.mk' ⟨by simp[go_sem,f2],by simp[go_sem,f1],by simp[go_sem,f6],by simp[go_sem,f7],by simp[go_sem,f5],by simp[go_sem],by rw[o];simp[go_sem],by simp[go_sem,fm]⟩
    |false =>
     rw[Bool.false_or]at o;by_cases hq:l.params[j].1=l.params[k].1
     .have t:(l.params.take (j+1)).any (fun y=>eM l.params[k] y)=true:=by rw[o];exact decide_eq_true hq.symm
      simp[go_sem,f6,f7,f9,f8,J,a2,C,wj,hq];exact Keep.mk' ⟨by simp[go_sem,f2],by simp[go_sem,f1],by simp[go_sem,f6],by simp[go_sem,f7],by simp[go_sem,f5],by simp[go_sem],by rw[t];simp[go_sem],by simp[go_sem,fm]⟩
     .have t:(l.params.take (j+1)).any (fun y=>eM l.params[k] y)=false:=by rw[o];exact decide_eq_false fun e=>hq e.symm
      simp[go_sem,f6,f7,f9,f8,J,a2,C,wj,jO hq];exact Keep.mk' ⟨by simp[go_sem,f2],by simp[go_sem,f1],by simp[go_sem,f6],by simp[go_sem,f7],by simp[go_sem,f5],by simp[go_sem],by rw[t];simp[go_sem],by simp[go_sem,fm]⟩
   .have aa:j=k:=by omega
    subst aa;rw[hT]at a1;cases T with
    |true =>
     simp[go_sem,f7,f5,f9,f8,fm];refine uX (ys:=[(41,0)]) ho (by simp[qM]) (by simp;omega) fun ab m' R ad=>?_
     simp[go_sem,f7,wi];exact⟨C,Keep.mk' ⟨by simp[go_sem,f2],by simp[go_sem,f1],by simp[go_sem,f6],by simp[go_sem],by rw[a1,Zp,<-zc];simpa[go_sem,un] using R⟩⟩
    |false =>
     simp[go_sem,f7,f9,f8,fm,wi];exact⟨C,Keep.mk' ⟨by simp[go_sem,f2],by simp[go_sem,f1],by simp[go_sem,f6],by simp[go_sem],by rw[a1,Zp];simpa[go_sem,un,f5,fm] using ho⟩⟩
  .have ae:k=l.params.length:=by omega
   subst ae;rw[zN (by rw[uP];exact qs _)]at ho a4;simp[go_sem,e6,e7];refine qm.intro (by kernel_rfl) ?_;simp[go_sem,e2,e1,e6,I,a9];refine qd.pure c1 wk ?_;by_cases U:D.1=0
   .have a3:rp D=[]:=if_pos U
    rw[a3];simp[go_sem,h5,U];exact rdDg (Zq ho _)
   .have a3:rp D=[D]:=if_neg U
    rw[a3];simp[go_sem,h5,U];refine uX (ys:=[D]) (Zq ho _) (by simp[qM]) (by simp only[qX,List.length_singleton];omega) fun ab m' R ad=>?_
    simp[go_sem];rw[zc]at R;exact rdDg R
theorem Ya(f:Nat->List Dg)(n:Nat):(qt (n+1)).flatMap f=(qt n).flatMap f++f n:=by
 rw[List.range_succ,List.flatMap_append];simp only[wB,List.flatMap_nil,zO]
theorem qj2(ts:TS)(h:okTS ts)(wp:∀ p,p∈ts.preds->WfN p.body)(wf:∀ f,f∈ts.facts->WfN f.2)(dp:∀ p,p∈ts.preds->depN p.body<=24)(df:∀ f,f∈ts.facts->depN f.2<=24):qe qc 61 [eTS ts] (lDg (yZ ts)):=by
 have an:=h.np;have ao:=h.nfa;have hD:(dups (repL eS ts.sorts)++dups (repL eF ts.fields)).length<=10:=by
  have a1:=Y16.ue (repL eS ts.sorts);have a2:=Y16.ue (repL eF ts.fields);rw[uP]at a1 a2;have:=h.ns;have:=h.nf;rw[qX];omega
 have hC:yZ ts=(dups (repL eS ts.sorts)++dups (repL eF ts.fields))++((qt ts.preds.length).flatMap (jR ts)++(qt ts.facts.length).flatMap (uQ ts ts.facts)):=by
  unfold yZ;rw[zc]
 rw[hC];have aa:=qjZ ts h [];generalize dups (repL eS ts.sorts)++dups (repL eF ts.fields)=D0 at *
 refine qSV call61 func61 rfl ?_;simp[go_sem];refine qd.eff0 aa (fun r m hr=>?_) (fun r m hr=>?_)
 case refine_2 =>
  obtain⟨P,e,_⟩:=hr;cases e
 obtain⟨aq,e,ab,_⟩:=hr;cases e;simp[go_sem];refine qk.upK ts.preds.length (fun i st=>st.tm 1 = .ip (cTS ts)/\st.tm 4=aI i/\OwnF 0 st.mu 2 (st.tm 3) ((D0++(qt i).flatMap (jR ts)).map cDg)) ?_ ?_
 .exact ⟨by simp[go_sem],by simp[go_sem],by simpa[go_sem] using ab⟩
 rintro i st hi ⟨R,e4,U⟩;have al:=Y16.Wf (jR ts) (Y16.kY h) i;generalize h3:st.tm 3=P at *
 by_cases g:i<ts.preds.length
 .have l:=Ya (jR ts) i
  have ar:=Y16.kY h i;have ad:=qj1 ts h wp i g (dp _ (qy g));have wi:qi.wrap ((i:Int)+1)=(i:Int)+1:=qg (by omega) (by omega);generalize jR ts i=PD at *
  simp[go_sem,R,e4,h3,g];refine qd.pure ad (.cons (.hf (zq ts)) (.cons (.hf (HF.sc _)) .nil)) ?_;simp[go_sem];refine uX (ys:=PD) U (by simp[qM]) (by simp only[qX];omega) fun ae m' a0 af=>?_
  simp[go_sem,e4,wi];exact⟨g,Keep.mk' ⟨by simp[go_sem,R],by simp[go_sem],by rw[l,<-zc];simpa[go_sem] using a0⟩⟩
 .have a4:i=ts.preds.length:=by omega
  subst a4;simp[go_sem,R,e4];generalize (qt ts.preds.length).flatMap (jR ts)=P0 at *
  refine qk.upK ts.facts.length (fun i st=>st.tm 1 = .ip (cTS ts)/\st.tm 5=aI i/\OwnF 0 st.mu 2 (st.tm 3) (((D0++P0)++(qt i).flatMap (uQ ts ts.facts)).map cDg)) ?_ ?_
  .exact ⟨by simp[go_sem,R],by simp[go_sem],by simpa[go_sem,h3] using U⟩
  clear U R e4 h3 g hi st;rintro i st hi ⟨R,e4,U⟩;have ag:=Y16.Wf (uQ ts ts.facts) (Y16.qeX ts ts.facts) i;generalize h3:st.tm 3=ah at *
  by_cases g:i<ts.facts.length
  .have l:=Ya (uQ ts ts.facts) i
   have ai:uQ ts ts.facts i=dups [(ts.facts.take i).any (fun y=>eA ts.facts[i] y)]++rp (yg ts [] ts.facts[i].2):=by
    unfold uQ;rw[qz g];simp only;rw[gw,qz g]
   rw[ai]at l;have cf:=Xu ts h wp [] ⟨by simp,by simp⟩ (by simp) ts.facts[i].2 (wf _ (qy g)) (df _ (qy g));have wi:qi.wrap ((i:Int)+1)=(i:Int)+1:=qg (by omega) (by omega);generalize yg ts [] ts.facts[i].2=D at *
   simp[go_sem,R,e4,g];refine qk.upK i (fun k st2=>st2.tm 1 = .ip (cTS ts)/\st2.tm 5=aI i/\st2.tm 3=ah/\st2.tm 7=aI k/\st2.tm 6=aB ((ts.facts.take k).any fun y=>eA ts.facts[i] y)/\st2.mu=st.mu) ?_ ?_
   .exact ⟨by simp[go_sem,R],by simp[go_sem,e4],by simp[go_sem,h3],by simp[go_sem],by simp[go_sem],by simp[go_sem]⟩
   rintro k st2 hk ⟨f1,f4,f3,f6,f5,fm⟩;generalize hT:(ts.facts.take k).any (fun y=>eA ts.facts[i] y)=T at *
   by_cases a3:k<i
   .have a5:k<ts.facts.length:=by omega
    have wk:qi.wrap ((k:Int)+1)=(k:Int)+1:=qg (by omega) (by omega);have o:=VJ (fun y=>eA ts.facts[i] y) ts.facts k a5;rw[hT]at o;simp[go_sem,f4,f6,a3];refine qm.intro (by kernel_rfl) ?_;cases T with
    |true =>
     rw[Bool.true_or]at o;simp[go_sem,f6,f5,a3,wk];exact Keep.mk' ⟨by simp[go_sem,f1],by simp[go_sem,f4],by simp[go_sem,f3],by simp[go_sem],by rw[o];simp[go_sem],by simp[go_sem,fm]⟩
    |false =>
     rw[Bool.false_or]at o;by_cases hq:ts.facts[k].1=ts.facts[i].1
     .have C:(ts.facts.take (k+1)).any (fun y=>eA ts.facts[i] y)=true:=by rw[o];exact decide_eq_true hq.symm
      simp[go_sem,f1,f4,f6,f5,a3,a5,g,wk,hq];exact Keep.mk' ⟨by simp[go_sem,f1],by simp[go_sem,f4],by simp[go_sem,f3],by simp[go_sem],by rw[C];simp[go_sem],by simp[go_sem,fm]⟩
     .have C:(ts.facts.take (k+1)).any (fun y=>eA ts.facts[i] y)=false:=by rw[o];exact decide_eq_false fun e=>hq e.symm
      simp[go_sem,f1,f4,f6,f5,a3,a5,g,wk,jO hq];exact Keep.mk' ⟨by simp[go_sem,f1],by simp[go_sem,f4],by simp[go_sem,f3],by simp[go_sem],by rw[C];simp[go_sem],by simp[go_sem,fm]⟩
   .have aj:k=i:=by omega
    subst aj;rw[hT]at l;have a7:WKs [eTS ts,.lst true [],eNd ts.facts[k].2] [eTS ts,lPm [],eNd ts.facts[k].2] := .cons (.hf (zq ts)) (.cons (WK.lst fun r hr=>absurd hr qI) (.cons (.hf (ze _)) .nil));have au:=kA;cases T with
    |true =>
     simp[go_sem,f4,f3,f6,f5,fm];refine uX (ys:=[(41,0)]) U (by simp[qM]) (by simp only[qX,List.length_singleton];omega) fun ae m' a0 af=>?_
     simp[go_sem];refine qm.intro (by kernel_rfl) ?_;simp[go_sem,f1,f4,g];refine qd.pure cf a7 ?_;by_cases t:D.1=0
     .have I:rp D=[]:=if_pos t
      rw[I,zO]at l;simp[go_sem,f4,wi,t];exact⟨g,Keep.mk' ⟨by simp[go_sem,f1],by simp[go_sem],by rw[l,<-zc];simpa[go_sem,un] using Zq a0 (.arr [aI 0,aI D.2])⟩⟩
     .have I:rp D=[D]:=if_neg t
      rw[I]at l;simp[go_sem,t];refine uX (ys:=[D]) (Zq a0 _) (by simp[qM]) (by simp only[qX,List.length_singleton];omega) fun a8 ak J a9=>?_
      simp[go_sem,f4,wi];exact⟨g,Keep.mk' ⟨by simp[go_sem,f1],by simp[go_sem],by rw[l,<-zc];simpa[go_sem,un,zc] using J⟩⟩
    |false =>
     simp[go_sem,f4,f6,f5,fm];refine qm.intro (by kernel_rfl) ?_;simp[go_sem,f1,f4,g];refine qd.pure cf a7 ?_;by_cases t:D.1=0
     .have I:rp D=[]:=if_pos t
      rw[I,zO]at l;simp[go_sem,f4,wi,t];exact⟨g,Keep.mk' ⟨by simp[go_sem,f1],by simp[go_sem],by rw[l,<-zc];simpa[go_sem,un,f3] using Zq U (.arr [aI 0,aI D.2])⟩⟩
     .have I:rp D=[D]:=if_neg t
      rw[I]at l;simp[go_sem,f3,t];refine uX (ys:=[D]) (Zq U _) (by simp[qM]) (by simp only[qX,List.length_singleton];omega) fun a8 ak J a9=>?_
      simp[go_sem,f4,wi];exact⟨g,Keep.mk' ⟨by simp[go_sem,f1],by simp[go_sem],by rw[l,<-zc];simpa[go_sem,un,zc] using J⟩⟩
  .have a4:i=ts.facts.length:=by omega
   subst a4;simp[go_sem,R,e4,h3];rw[zc]at U;exact rdDg U
end QU
namespace QP
end QP
namespace QV
end QV
namespace QW
open YS YF Y9 Y1 Y2 YZ YA P1 P2
section
variable {nm:ByteArray}{l:List ByteArray}
abbrev rNm(b:ByteArray):List AV:=[aS b]
abbrev lNm(l:List ByteArray):AV := .lst false (l.map rNm)
def namL(n:Nd):List ByteArray:=((preN n).filter fun x=>decide (x.name≠⟨#[]⟩)).map Nd.name
def jv(l:List Nd):List ByteArray:=((zm l).filter fun x=>decide (x.name≠⟨#[]⟩)).map Nd.name
theorem qj3(n:Nd):namL n=(if n.name=⟨#[]⟩ then [] else [n.name])++jv n.kids:=by
 unfold namL jv;rw[uU,List.filter_cons];by_cases h:n.name=⟨#[]⟩
 .simp [h]
 .simp [h]
theorem VK:∀ a b:List Nd,zm (a++b)=zm a++zm b
 | [],b=>rfl
 |x :: a,b=>by rw[yD];simp only[zm];rw[VK a b,zc]
theorem qj4(a:List Nd)(k:Nd):jv (a++[k])=jv a++namL k:=by
 unfold jv namL;rw[VK];simp[zm]
theorem qj5(l:List Nd):(jv l).length<=(zm l).length:=by
 unfold jv;rw[zH];exact List.length_filter_le ..
theorem VL(n:Nd):(namL n).length<=(preN n).length:=by
 unfold namL;rw[zH];exact List.length_filter_le ..
theorem Xw(l:List ByteArray):zj 1 (l.map rNm):=fun r g=>by
 obtain⟨x,_,rfl⟩:=qp.1 g;exact⟨rfl,rfl⟩
theorem mq(l:List ByteArray):HF (lNm l):=HF.lst fun r i c g=>by
 obtain⟨x,_,rfl⟩:=qp.1 i;rw[qN]at g;subst g;exact HF.sc _
theorem rdNm{lo:Nat}{mu:Mu}{av:AV}(h:OwnF lo mu 1 av (l.map rNm)):Rd mu av (lNm l):=
 h.1.rd (Xw l).ok fun r i c g=>by
  obtain⟨x,_,rfl⟩:=qp.1 i;rw[qN]at g;subst g;exact HF.sc _
theorem appNm{mu:Mu}{lo:Nat}{s x:AV}{xs ys:List ByteArray}{K:AV->Mu->Prop}(g:OwnF lo mu 1 s (xs.map rNm))(j:qM mu x=some (ys.map rNm))(t:xs.length+ys.length<=1000000)(o:∀ av l,OwnF lo l 1 av ((xs++ys).map rNm)->(∀ i,i<lo->l[i]?=mu[i]?)->K av l) :
  qD qc mu #[197,197] s x K:=by
 refine qD.ownF (lo:=lo) (e:=9) (sz:=1) (bt:=16) (zv:=aS ⟨#[]⟩) (xs:=xs.map rNm) (ys:=ys.map rNm) (by simp[go_sem]) (by simp[go_sem]) (by simp[go_sem]) rfl rfl (by omega) (by omega) g j (Xw xs) (Xw ys) (by simp;omega) ?_;intro av l h r;exact o av l (by rw[zg];exact h) r
theorem qj6(l:List Nd)(k:Nat):(zm (l.take k)).length<=(zm l).length:=by
 have:zm l=zm (l.take k)++zm (l.drop k):=by rw[<-VK,List.take_append_drop]
 rw[this,qX];omega
theorem Xx:∀(m:Nat) (n:Nd),szN n<=m->Small n->∀(lo:Nat) (mu:Mu) (av:AV) (xs:List ByteArray),OwnF lo mu 1 av (xs.map rNm)->xs.length+(preN n).length<=500000 ->
  qP qc 213 [av,eNd n] mu fun e C=>∃ g,e = .ret g/\OwnF lo C 1 g ((xs++namL n).map rNm)/\∀ i,i<lo->C[i]?=mu[i]?
 | 0,n,J,_=>by obtain⟨op,nm,i,ks,p⟩:=n;simp[szN]at J
 |m+1,n,J,hs=>by
  intro lo mu av xs I hl;have ih:∀ k,k∈n.kids->∀(lo:Nat) (mu:Mu) (av:AV) (xs:List ByteArray),OwnF lo mu 1 av (xs.map rNm)->xs.length+(preN k).length<=500000->qP qc 213 [av,eNd k] mu fun e C=>∃ g,e = .ret g/\OwnF lo C 1 g ((xs++namL k).map rNm)/\∀ i,i<lo->C[i]?=mu[i]?:=fun k T =>
   Xx m k (by have:=yx T;omega) (hs.kid T)
  have aa:=hs.len;have o:=qj3 n;have ab:(preN n).length=1+(zm n.kids).length:=by rw[uU,zu];omega
  refine qSW call213 func213 rfl {} ?_;by_cases P:n.name=⟨#[]⟩
  case' pos =>
   rw[if_pos P,vf]at o;simp[go_sem,P];refine qk.upK n.kids.length (fun k st=>st.tm 3 = .ip (cNd n)/\st.tm 5=aI k/\OwnF lo st.mu 1 (st.tm 0) ((xs++jv (n.kids.take k)).map rNm)/\∀ i,i<lo->st.mu[i]?=mu[i]?) ?_ ?_
   .exact ⟨by simp[go_sem],by simp[go_sem],by simpa[go_sem,jv,zm] using I,by simp[go_sem]⟩
   generalize U:xs=X at *
   have a0:X.length+(zm n.kids).length<=500000:=by omega
   have t:X++jv n.kids=X++namL n:=by rw[o]
  case' neg =>
   rw[if_neg P]at o;have a1:n.name.toList.isEmpty=false:=by simpa using jO P
   simp[go_sem,a1];refine appNm (ys:=[n.name]) I (by simp[qM]) (by simp only[List.length_singleton];omega) fun g C a2 a3=>?_
   simp[go_sem];refine qk.upK n.kids.length (fun k st=>st.tm 3 = .ip (cNd n)/\st.tm 5=aI k/\OwnF lo st.mu 1 (st.tm 0) (((xs++[n.name])++jv (n.kids.take k)).map rNm)/\∀ i,i<lo->st.mu[i]?=mu[i]?) ?_ ?_
   .exact ⟨by simp[go_sem],by simp[go_sem],by simpa[go_sem,jv,zm] using a2,by simpa[go_sem] using a3⟩
   generalize U:xs++[n.name]=X at *
   have a0:X.length+(zm n.kids).length<=500000:=by rw[<-U,qX,List.length_singleton];omega
   have t:X++jv n.kids=xs++namL n:=by rw[o,<-U,zc]
  all_goals
   rintro k st T ⟨R,e5,I,J⟩;generalize h0:st.tm 0=a4 at *
   by_cases l:k<n.kids.length
   .have w1:qi.wrap ((k:Int)+1)=(k:Int)+1:=qg (by omega) (by omega)
    have a5:jv (n.kids.take (k+1))=jv (n.kids.take k)++namL n.kids[k]:=by rw[jH l,qj4]
    have ad:(zm (n.kids.take (k+1))).length=(zm (n.kids.take k)).length+(preN n.kids[k]).length:=by rw[jH l,VK];simp[zm]
    have h1:=qj6 n.kids (k+1);have h2:=qj5 (n.kids.take k);simp[go_sem,R,e5,h0,l,qR];refine qd.eff0 (ih n.kids[k] (qy l) lo st.mu a4 _ I (by rw[qX];omega)) (fun r m2 hr=>?_) (fun r m2 hr=>?_)
    .obtain ⟨a6,e,a7,a8⟩:=hr
     cases e;simp[go_sem,R,e5,w1];exact⟨l,Keep.mk' ⟨by simp[go_sem,R],by simp[go_sem],by rw[a5,<-zc];simpa[go_sem] using a7,by simp only[zl];exact fun i hi=>(a8 i hi).trans (J i hi)⟩⟩
    .obtain ⟨a6,e,_⟩:=hr
     cases e
   .have a9:k=n.kids.length:=by omega
    subst a9;rw[q8,t]at I;simp[go_sem,R,e5,h0];exact⟨by simpa using I,J⟩
def takL(ts:TS)(n:Nd):List ByteArray:=namL n++ts.preds.flatMap fun p=>namL p.body
theorem qj7(ts:TS)(h:okTS ts)(wp:∀ p,p∈ts.preds->WfN p.body)(n:Nd)(hw:WfN n)(hl:(preN n).length<=400)(hp:∀ p,p∈ts.preds->(preN p.body).length<=400):qe qc 137 [eTS ts,eNd n] (lNm (takL ts n)):=by
 have a3:=h.np;have hk:∀ i (t:i<ts.preds.length),ts.preds.take (i+1)=ts.preds.take i++[ts.preds[i]]:=fun i t=>jH t
 have J:∀ i,((ts.preds.take i).flatMap fun p=>namL p.body).length<=400*i:=by
  intro i;induction i with
  |zero=>simp
  |succ i ih =>
   by_cases t:i<ts.preds.length
   .rw [hk i t,List.flatMap_append,qX]
    have h1:=VL ts.preds[i].body;have h2:=hp _ (qy t);simp only[wB,List.flatMap_nil,zO];omega
   .have e1:ts.preds.take (i+1)=ts.preds:=zN (by omega)
    have l:ts.preds.take i=ts.preds:=zN (by omega);rw[e1];rw[l]at ih;omega
 have hn:=VL n;refine qSV call137 func137 rfl ?_;simp[go_sem];refine qd.eff0 (Xx (szN n) n (qs _) hw.small 0 [] (.lst true []) [] (OwnF.nil (by simp)) (by simp;omega)) (fun r P j=>?_) (fun r P j=>?_)
 case refine_2 =>
  obtain⟨C,e,_⟩:=j;cases e
 obtain⟨a4,e,I,_⟩:=j;cases e;rw[vf]at I;simp[go_sem];refine qk.upK ts.preds.length (fun k st=>st.tm 2 = .ip (cTS ts)/\st.tm 6=aI k/\OwnF 0 st.mu 1 (st.tm 5) ((namL n++(ts.preds.take k).flatMap fun p=>namL p.body).map rNm)) ?_ ?_
 .exact ⟨by simp[go_sem],by simp[go_sem],by simpa[go_sem] using I⟩
 rintro k st a5 ⟨l,R,T⟩;generalize h5:st.tm 5=U at *
 by_cases g:k<ts.preds.length
 .have w1:qi.wrap ((k:Int)+1)=(k:Int)+1:=qg (by omega) (by omega)
  have a0:(ts.preds.take (k+1)).flatMap (fun p=>namL p.body)=(ts.preds.take k).flatMap (fun p=>namL p.body)++namL ts.preds[k].body:=by
   rw[hk k g,List.flatMap_append];simp only[wB,List.flatMap_nil,zO]
  have h1:=J k;have h2:=hp _ (qy g);simp[go_sem,l,R,h5,g,JW];refine qd.eff0 (Xx (szN ts.preds[k].body) ts.preds[k].body (qs _) (wp _ (qy g)).small 0 st.mu U _ T (by rw[qX];omega)) (fun r P j=>?_) (fun r P j=>?_)
  .obtain ⟨C,e,a1,_⟩:=j
   cases e;simp[go_sem,l,R,w1];exact⟨g,Keep.mk' ⟨by simp[go_sem,l],by simp[go_sem],by rw[a0,<-zc];simpa[go_sem] using a1⟩⟩
  .obtain ⟨C,e,_⟩:=j
   cases e
 .have a2:k=ts.preds.length:=by omega
  subst a2;rw[q8]at T;simp[go_sem,l,R,h5];exact rdNm T
def inL(nm:ByteArray)(l:List ByteArray):Bool:=l.any fun x=>decide (x=nm)
theorem Xy:inL nm l=true↔nm∈l:=by
 unfold inL;simp
theorem mr(h:¬nm∈l):inL nm l=false:=by
 cases e:inL nm l with
 |false=>rfl
 |true=>exact absurd (Xy.1 e) h
theorem hasU(l:List ByteArray)(nm:ByteArray)(P:l.length<=1000000):qe qc 263 [lNm l,aS nm] (aB (inL nm l)):=by
 refine qSV call263 func263 rfl ?_;simp[go_sem];refine qk.upK l.length (fun k st=>st.tm 0=lNm l/\st.tm 1=aS nm/\st.tm 5=aI k/\∀ x,x∈l.take k->x≠nm) ?_ ?_
 .exact ⟨by simp[go_sem],by simp[go_sem],by simp[go_sem],by simp⟩
 rintro k st R ⟨i,j,r,t⟩;by_cases g:k<l.length
 .have J:qi.wrap ((k:Int)+1)=(k:Int)+1:=qg (by omega) (by omega)
  by_cases o:l[k]=nm
  .have C:inL nm l=true:=Xy.2 (o ▸ qy g)
   rw[C];simp[go_sem,i,j,r,g,o];exact .hf _ (HF.sc _)
  .simp [go_sem,i,j,r,g,jO o,J]
   refine Keep.mk' ⟨by simp[go_sem,i],by simp[go_sem,j],by simp[go_sem],fun x p=>?_⟩;rw[jH g,qG,qN]at p;rcases p with p|rfl
   .exact t x p
   .exact o
 .have I:k=l.length:=by omega
  subst I;rw[q8]at t;have C:inL nm l=false:=mr fun h=>t nm h rfl
  rw[C];simp[go_sem,i,j,r];exact .hf _ (HF.sc _)
theorem qj8(u:Nat)(h:u<10):ByteArray.empty.push (UInt8.ofNat ((48:Int)+(u:Int)).toNat)=jf u:=by
 unfold jf;rw[Lib.itoa_nonneg,Lib.decDigits_one h,show ((48:Int)+(u:Int)).toNat=48+u by omega];rfl
theorem qj9(u:Nat)(h:¬u<10):jf ((u / 10:Nat):Int)++ByteArray.empty.push (UInt8.ofNat ((48:Int)+((u % 10:Nat):Int)).toNat)=jf u:=by
 unfold jf;rw[Lib.itoa_nonneg,Lib.itoa_nonneg,Lib.decDigits.eq_1 u,dif_neg h,show ((48:Int)+((u % 10:Nat):Int)).toNat=48+u % 10 by omega];apply ByteArray.ext;simp
theorem digU:∀(m u:Nat),u<=m->u<=1000000000->qe qc 262 [aI u] (aS (jf u))
 |m,u,J,P=>by
  have r:qi.wrap (48+(u:Int))=48+(u:Int):=qg (by omega) (by omega);refine qSV call262 func262 rfl ?_;by_cases h:u<10
  .have i:(u:Int)<10:=by omega
   have t:IntKind.u8.wrap (48+(u:Int))=48+(u:Int):=IntWalk.u8_in _ ⟨by omega,by omega⟩;have g:=qj8 u h;simp[go_sem,i,r,t,g];exact .hf _ (HF.sc _)
  .have i:¬(u:Int)<10:=by omega
   have C:=digU (u / 10) (u / 10) (qs _) (by omega);have g:=qj9 u h;simp[go_sem,i];refine qm.intro (by kernel_rfl) ?_;have I:qi.wrap ((u:Int) / 10)=((u / 10:Nat):Int):=by rw[show ((u:Int) / 10)=((u / 10:Nat):Int) from rfl];exact qg (by omega) (by omega)
   have t3:(u:Int).tmod 10=((u % 10:Nat):Int):=rfl;have o:qi.wrap (48+((u % 10:Nat):Int))=48+((u % 10:Nat):Int):=qg (by omega) (by omega);have p:IntKind.u8.wrap (48+((u % 10:Nat):Int))=48+((u % 10:Nat):Int):=IntWalk.u8_in _ ⟨by omega,by omega⟩;have j:=gi ((u / 10:Nat):Int) (by omega) (by omega);simp[go_sem,I];refine qd.pure C (.cons (.hf (HF.sc _)) .nil) ?_;have c1:((u / 10:Nat):Int)=(u:Int) / 10:=rfl;have c2:((u % 10:Nat):Int)=(u:Int) % 10:=rfl;rw[c1]at j g;rw[c2]at o p g;have l:(jf ((u:Int) / 10)).size<=9223372036854775806:=by omega
   simp[go_sem,t3,o,p,l,g];exact .hf _ (HF.sc _)
end
end QW
namespace QX
open YS YF Y9 Y1 Y2 YX YZ YA YB P1 QD QK QW
abbrev cWk(ts:TS)(l:List ByteArray)(s:ISt):List AV:=cTS ts++[lNm l,aI s.last,aI s.cost]
abbrev eWk(ts:TS)(l:List ByteArray)(s:ISt):AV := .agg (cWk ts l s)
theorem qkA(ts:TS)(l:List ByteArray)(s:ISt):∀ c,c∈cWk ts l s->HF c:=fun c g=>by
 rcases qG.1 g with g|g
 .exact JV ts c g
 .simp only[qw,qI,or_false]at g
  rcases g with rfl|rfl|rfl
  .exact mq l
  .exact HF.sc _
  .exact HF.sc _
theorem uo(ts:TS)(l:List ByteArray)(s:ISt):HF (eWk ts l s):=HF.agg (qkA ts l s)
structure Tn (l:List ByteArray) (es:List (ByteArray×Bool)):Prop where
 mem:∀ nm:ByteArray,nm≠⟨#[]⟩->(nm∈l↔getK nm es=some true)
 len:es.length<=l.length+1
theorem vN_ne(k:Int):vN k≠⟨#[]⟩:=fun e=>by
 have:=congrArg ByteArray.size e;unfold vN at this;rw[ByteArray.size_append]at this;have g:(⟨#[118]⟩:ByteArray).size=1:=rfl;have i:(⟨#[]⟩:ByteArray).size=0:=rfl;omega
theorem qkB{ts:TS}{l:List ByteArray}{es:List (ByteArray×Bool)}(t:Tn l es)(k:Int):y0 ts es (vN k)=(decide ((means ts (vN k)).length=0)&&!inL (vN k) l):=by
 unfold y0;have i:=t.mem (vN k) (vN_ne k);have j:decide (means ts (vN k)=[])=decide ((means ts (vN k)).length=0):=by
  simp[List.length_eq_zero_iff]
 rw[j,Bool.and_comm];congr 1;by_cases g:vN k∈l
 .rw [Xy.2 g];simp[i.1 g]
 .rw [mr g]
  simp only[Bool.not_false,decide_eq_true_eq];exact fun e=>g (i.2 e)
theorem two{C:Type}{l:List C}{a b:C}(g:l[0]?=some a)(i:l[1]?=some b):∃ r,l=a :: b :: r:=by
 match l,g,i with
 |_ :: _ :: r,g,i =>
  simp at g i;exact⟨r,by rw[g,i]⟩
abbrev zWk:List AV:=[.lst true [],.lst true [],.lst true [],.lst true [],.lst true [],aI 0,aI 0]
theorem qkC(ts:TS)(h:okTS ts)(l:List ByteArray)(es:List (ByteArray×Bool))(t:Tn l es)(hl:l.length<=400000)(s:ISt)(hs:0<=s.last/\s.last+(qu ts es:Nat)<=1000000000)(a4:∃ j:Nat,1<=j/\j<=qu ts es/\y0 ts es (vN (s.last+j))=true) :
  qe qc 212 [eWk ts l s] (.tup [eWk ts l ⟨zy ts es (qu ts es) s.last,s.cost⟩,aS (vN (zy ts es (qu ts es) s.last))]):=by
 have a8:=h.ns;have a9:=h.nf;have hF:qu ts es<=l.length+40:=by have:=t.len;unfold qu;omega
 have a5:okNm ts:=⟨h.sl,by omega,by omega,fun f hf=>by have:=h.fl f hf;omega⟩;generalize aa:qu ts es=F at *
 generalize hR:zy ts es F s.last=R;refine qSQ call212 func212 rfl { mt:=[1] } ?_;simp[go_sem];refine qk.keep (fun m st=>∃(i:Nat) (k:Int),i+m=F/\0<=k/\k+m<=1000000000/\st.tm 1 = .ptr 0 0/\st.tm 2 = .ptr 1 0/\st.tm 4=aI i/\st.mu[0]?=some (.arr (cWk ts l ⟨k,s.cost⟩))/\st.mu[1]?=some (.arr zWk)/\zy ts es m k=R/\∃ j:Nat,1<=j/\j<=m/\y0 ts es (vN (k+j))=true) F ?_ ?_
 .exact ⟨0,s.last,by omega,hs.1,by omega,by simp[go_sem],by simp[go_sem],by simp[go_sem],by simp[go_sem],by simp[go_sem],hR,a4⟩
 rintro m st ⟨i,k,ab,ad,ae,I,J,e4,m0,m1,hI,j,af,ag,P⟩;obtain⟨m,rfl⟩:∃ m',m=m'+1:=⟨m-1,by omega⟩;obtain⟨rr,o⟩:=two m0 m1;have w1:qi.wrap (k+1)=k+1:=qg (by omega) (by omega);have w2:qi.wrap ((l.length:Int)+40)=(l.length:Int)+40:=qg (by omega) (by omega);have w3:qi.wrap ((i:Int)+1)=(i:Int)+1:=qg (by omega) (by omega);have g:(i:Int)<=(l.length:Int)+40:=by omega
 obtain⟨u,hu⟩:∃ u:Nat,k+1=(u:Int):=⟨(k+1).toNat,by omega⟩;have cd:=digU u u (qs _) (by omega);have ah:=gi (u:Int) (by omega) (by omega);have a2:1+(jf (u:Int)).size<=9223372036854775807:=by omega
 have hv:(⟨#[118]⟩:ByteArray)++jf (u:Int)=vN (k+1):=by rw[hu];rfl
 have p:=qkB (ts:=ts) t (k+1);have cn:=Xf ts a5 (vN (k+1));have U:=Xe ts (vN (k+1));have hk:(named ts (vN (k+1))).2=(means ts (vN (k+1))).length:=by rw[Xr h]
 rw[hk]at cn;generalize (named ts (vN (k+1))).1=C at *
 have ch:=hasU l (vN (k+1)) (by omega);clear m0 m1;simp[go_sem,I,J,e4,o,w1,w2,g];refine qd.pure cd (.cons (by rw[hu];exact .hf (HF.sc _)) .nil) ?_;simp[go_sem,I,J,e4,o,w1,w2,g,a2,hv];refine qd.pure cn (.cons (.hf (zq ts)) (.cons (.hf (HF.sc _)) .nil)) ?_;simp[go_sem,I,J,e4,o,w1,w2,g,U.len];rw[if_pos U.one];generalize putCells _ 0 C=PC;have next:y0 ts es (vN (k+1))=false->∃ k':Int,k'=k+1/\zy ts es m k'=R/\∃ j:Nat,1<=j/\j<=m/\y0 ts es (vN (k'+j))=true:=fun hn=>by
  refine⟨k+1,rfl,?_,j-1,?_,by omega,?_⟩
  .rw [<-hI];simp only[zy];rw[if_neg (by rw[hn];simp)]
  .have:j≠1:=fun e=>by subst e;rw[show k+((1:Nat):Int)=k+1 from rfl]at P;rw[hn]at P;cases P
   omega
  .rw [show k+1+((j-1:Nat):Int)=k+j by omega];exact P
 by_cases T:means ts (vN (k+1))=[]
 .rw [T]at p
  simp[go_sem,I,J,e4,o,w1,w2,g,T];refine qd.pure ch (.cons (.hf (mq l)) (.cons (.hf (HF.sc _)) .nil)) ?_;cases a3:inL (vN (k+1)) l with
  |true =>
   rw[a3]at p;obtain⟨k',r,a0,a1⟩:=next p;simp[go_sem,I,J,e4,o,w1,w2,w3,g];exact⟨m,by omega,Keep.mk' ⟨i+1,k+1,by omega,by omega,by omega,by simp[go_sem,I],by simp[go_sem,J],by simp[go_sem],by simp[go_sem],by simp[go_sem],by rw[<-r];exact a0,by rw[<-r];exact a1⟩⟩
  |false =>
   rw[a3]at p;have a6:R=k+1:=by rw[<-hI];simp only[zy];rw[if_pos (by rw[p];rfl)]
   simp[go_sem,I,J,e4,o,w1,w2,g];rw[a6];exact .hf _ (HF.tup fun x hx=>by
    simp only[qw,qI,or_false]at hx;rcases hx with rfl|rfl
    .exact uo ts l ⟨k+1,s.cost⟩
    .exact HF.sc _)
 .have a7:¬(means ts (vN (k+1))).length=0:=fun e=>T (List.length_eq_zero_iff.1 e)
  rw[decide_eq_false a7]at p;obtain⟨k',r,a0,a1⟩:=next p;simp[go_sem,I,J,e4,o,w1,w2,w3,g,T];exact⟨m,by omega,Keep.mk' ⟨i+1,k+1,by omega,by omega,by omega,by simp[go_sem,I],by simp[go_sem,J],by simp[go_sem],by simp[go_sem],by simp[go_sem],by rw[<-r];exact a0,by rw[<-r];exact a1⟩⟩
abbrev Sb:=ByteArray×IV
def cAr:Option Nd->List AV
 |some a=>cNd a
 |none=>[aI 0,aS ⟨#[]⟩,aI 0,.lst true [],aI 0]
@[go_sem] theorem cAr_some(a:Nd):cAr (some a)=cNd a:=rfl
@[go_sem] theorem cAr_none:cAr none=[aI 0,aS ⟨#[]⟩,aI 0,.lst true [],aI 0]:=rfl
@[go_sem] theorem qkD(o:Option Nd):(cAr o).length=5:=by cases o<;>simp[go_sem,yw]
theorem qkE(o:Option Nd):∀ c,c∈cAr o->HF c:=by
 cases o with
 |some a=>exact wW a
 |none =>
  intro c g;simp only[cAr,qw,qI,or_false]at g;rcases g with rfl|rfl|rfl|rfl|rfl
  .exact HF.sc _
  .exact HF.sc _
  .exact HF.sc _
  .exact HF.lst fun r i=>absurd i qI
  .exact HF.sc _
abbrev cSb(x:Sb):List AV:=[aS x.1,aS x.2.name,aB x.2.arg.isSome]++cAr x.2.arg++[aI x.2.size]
abbrev lSb(l:List Sb):AV := .lst false (l.map cSb)
def vD(nm:ByteArray)(l:List Sb):Option IV:=l.foldl (fun r e=>if e.1=nm then some e.2 else r) none
theorem VM(nm:ByteArray)(l:List Sb)(e:Sb):vD nm (l++[e])=if e.1=nm then some e.2 else vD nm l:=by
 unfold vD;rw[List.foldl_append];rfl
theorem Xz{mu:Mu}(ts:TS)(l:List ByteArray)(s:ISt)(n:Nd)(z:Int):Rd mu (.tup [eWk ts l s,eNd n,aI z]) (.tup [eWk ts l s,eNd n,aI z]) := .hf _ (HF.tup fun x g=>by
 simp only[qw,qI,or_false]at g;rcases g with rfl|rfl|rfl
 .exact uo ts l s
 .exact ze n
 .exact HF.sc _)
def uY(sc:List Sb)(n:Nd)(s:ISt):(Nd×Int)×ISt:=match vD n.name sc with
 |none=>((n,1),s)
 |some v=>match v.arg with
  |none=>((.mk n.op v.name n.n n.kids n.pos,1),s)
  |some a=>((a,v.size),payS v.size s)
theorem leafU(ts:TS)(l:List ByteArray)(sc:List Sb)(hl:sc.length<=1000000)(n:Nd)(s:ISt)(hs:0<=s.cost/\s.cost<=1000000)(hz:∀ e,e∈sc->0<=e.2.size/\e.2.size<=1000000) :
  qe qc 209 [eWk ts l s,lSb sc,eNd n] (.tup [eWk ts l (uY sc n s).2,eNd (uY sc n s).1.1,aI (uY sc n s).1.2]):=by
 unfold uY;generalize hR:vD n.name sc=R;have wl:qi.wrap ((sc.length:Int)-1)=(sc.length:Int)-1:=qg (by omega) (by omega);refine qSQ call209 func209 rfl { mt:=[3,5] } ?_;simp[go_sem,wl,qR];refine qk.keep (fun m st=>m<=sc.length/\st.tm 1=lSb sc/\st.tm 3 = .ptr 0 0/\st.tm 5 = .ptr 1 0/\st.tm 6 = .ptr 2 0/\st.tm 7 = .ptr 3 0/\st.tm 9=aI ((m:Int)-1)/\st.mu=[.arr (cWk ts l s),.arr (cNd n),.arr zWk,.arr [aI 0,aS ⟨#[]⟩,aI 0,.lst true [],aI 0]]/\vD n.name (sc.take m)=R) sc.length ?_ ?_
 .exact ⟨qs _,by simp[go_sem],by simp[go_sem],by simp[go_sem],by simp[go_sem],by simp[go_sem],by simp[go_sem],by simp[go_sem,qR],by rw[q8];exact hR⟩
 rintro m st ⟨a1,j,o,p,r,t,C,I,P⟩;cases m with
 |zero =>
  have a0:R=none:=by rw[<-P];rfl
  subst a0;simp[go_sem,j,o,p,r,t,C,I,qR];refine qm.seg [0,1,4,2,3] [(0,0,[]),(1,0,[]),(4,0,[]),(2,1,[1]),(3,1,[])] (by kernel_rfl) (by kernel_rfl) (by simp[go_sem]) ?_;simp[go_sem,j,o,p,r,t,C,I,qR];exact Xz ts l s n 1
 |succ m =>
  have g:m<sc.length:=by omega
  have a2:(0:Int)<=((m+1:Nat):Int)-1:=by omega
  have T:((m+1:Nat):Int)-1=(m:Int):=by omega
  rw[T]at C;rw[jH g,VM]at P;have w1:qi.wrap ((m:Int)-1)=(m:Int)-1:=qg (by omega) (by omega);have a3:=hz _ (qy g);generalize i:sc[m]=e at *
  by_cases J:e.1=n.name
  .rw [if_pos J]at P
   subst P;have w2:qi.wrap (s.cost+e.2.size)=s.cost+e.2.size:=qg (by omega) (by omega);simp[go_sem,j,o,p,r,t,C,I,qR,g];refine qm.intro (by kernel_rfl) ?_;simp[go_sem,j,o,p,r,t,C,I,qR,g,i,J];cases ha:e.2.arg with
   |none =>
    simp[go_sem,j,o,p,r,t,C,I,qR,g,i,J,ha];refine qm.seg [0,1,4,2,3] [(0,0,[]),(1,0,[]),(4,0,[]),(2,1,[1]),(3,1,[])] (by kernel_rfl) (by kernel_rfl) (by simp[go_sem]) ?_;have U:(cNd n).set 1 (AV.sc (.string e.2.name))=cNd (.mk n.op e.2.name n.n n.kids n.pos):=by rw[yw n,yw];rfl
    rw[U];simp[go_sem,j,o,p,r,t,C,I,qR];exact Xz ts l s _ 1
   |some a =>
    simp[go_sem,j,o,p,r,t,C,I,qR,g,i,J,ha];refine qm.seg [0,1,2,3,4,5,6,7,8,9] [(0,0,[]),(1,0,[]),(2,0,[]),(3,0,[]),(4,0,[]),(5,0,[]),(6,0,[]),(7,0,[]),(8,0,[]),(9,1,[])] (by kernel_rfl) (by kernel_rfl) (by simp[go_sem]) ?_;simp[go_sem,j,o,p,r,t,C,I,qR,g,i,J,ha,w2];refine qm.seg [0,1,2,3,4,5,6,7,8,9,10,13,11,12] [(0,0,[]),(1,0,[]),(2,0,[]),(3,0,[]),(4,0,[]),(5,0,[]),(6,0,[]),(7,0,[]),(8,0,[]),(9,0,[]),(10,0,[]),(13,0,[]),(11,1,[5,10]),(12,1,[10])] (by kernel_rfl) (by kernel_rfl) (by simp[go_sem]) ?_;simp[go_sem,j,o,p,r,t,C,I,qR,g,i,J,ha,w2];exact Xz ts l (payS e.2.size s) a e.2.size
  .rw [if_neg J]at P
   simp[go_sem,j,o,p,r,t,C,I,qR,g];refine qm.intro (by kernel_rfl) ?_;simp[go_sem,j,o,p,r,t,C,I,qR,g,i,jO J,w1];exact⟨m,by omega,Keep.mk' ⟨by omega,by simp[go_sem,j],by simp[go_sem,o],by simp[go_sem,p],by simp[go_sem,r],by simp[go_sem,t],by simp[go_sem],by simp[go_sem,I],P⟩⟩
theorem XA:∀(m:Nat) (n:Nd),szN n<=m->Small n->depN n<=1000000->qe qc 64 [eNd n] (aI (depN n))
 | 0,n,J,_,_=>by obtain⟨op,nm,i,ks,p⟩:=n;simp[szN]at J
 |m+1,n,J,P,R=>by
  have U:∀ k,k∈n.kids->qe qc 64 [eNd k] (aI (depN k)):=fun k j =>
   XA m k (by have:=yx j;omega) (P.kid j) (by rw[Zg]at R;have:=qgY j;omega)
  rw[Zg]at R⊢;have T:=P.len;have a0:=WM n.kids;generalize hD:yc n.kids=D at *
  refine qSV call64 func64 rfl ?_;simp[go_sem];refine qk.upK n.kids.length (fun k st=>∃ d,st.tm 3=aI d/\st.tm 1 = .ip (cNd n)/\st.tm 4=aI k/\0<=d/\max d (yc (n.kids.drop k))=D) ?_ ?_
  .exact ⟨0,by simp[go_sem],by simp[go_sem],by simp[go_sem],by omega,by simp only[List.drop_zero,hD];omega⟩
  .rintro k st j ⟨d,r,l,t,a1,o⟩
   by_cases C:k=n.kids.length
   .subst C
    rw[yH]at o;simp only[yc]at o;have I:d=D:=by omega
    subst I;have w:qi.wrap (d+1)=d+1:=qg (by omega) (by omega);simp[go_sem,r,l,t,w];exact .hf _ (HF.sc _)
   .have g:k<n.kids.length:=by omega
    have w1:qi.wrap ((k:Int)+1)=(k:Int)+1:=qg (by omega) (by omega);rw[zG g]at o;simp only[yc]at o;simp[go_sem,r,l,t,g,qR];refine qd.pure (U n.kids[k] (qy g)) (.cons (.hf (ze _)) .nil) ?_;simp[go_sem,r,l,t,w1];refine⟨g,Keep.mk' ?_⟩;refine⟨if d<depN n.kids[k] then depN n.kids[k] else d,by simp[go_sem],by simp[go_sem,l],by simp[go_sem],?_,?_⟩
    .have:=qgX n.kids[k]
     split<;>omega
    .split<;>omega
end QX
namespace QY
open Y1 YX YA YB YC P1 P2 PA QE QX
section
variable {es:List (ByteArray×Bool)}
structure ScOf (ts:TS) (body:Bool) (sc:List Sb) (env:IEnv):Prop where
 look:∀ nm,vD nm sc=getK nm env
 own:body=false->∀ nm v,getK nm env=some v->means ts nm≠[]
 sz:∀ e,e∈sc->0<=e.2.size/\e.2.size<=4000
def OutR(r:XR (Nd×Int))(s':ISt)(n':Nd)(z:Int):Prop:=match r with
 | .ok ((m,y),t)=>n'=m/\z=y/\s'=t
 | .error _=>4000<s'.cost/\s'.cost<=9000/\0<=z/\z<=4000
def renR(ts:TS)(es:List (ByteArray×Bool))(sc:List Sb)(nm:ByteArray)(body:Bool)(s:ISt):(List Sb×ByteArray)×ISt:=
 if body=true\/means ts nm≠[] then
  ((sc++[(nm,⟨none,0,vN (zy ts es (qu ts es) s.last)⟩)],vN (zy ts es (qu ts es) s.last)),⟨zy ts es (qu ts es) s.last,s.cost⟩)
 else ((sc,nm),s)
abbrev XO:=ISt×Nd×Int
def jS(E:Nd->ISt->XO):List (ByteArray×Int)->List Nd->List Sb->ISt->Except ISt (List Sb×ISt)
 |p :: g,k :: ks,own,s=>if 4000<(E k s).1.cost then .error (E k s).1 else jS E g ks (own++[(p.1,⟨some (E k s).2.1,(E k s).2.2,⟨#[]⟩⟩)]) (E k s).1
 |_,_,own,s => .ok (own,s)
def vb(E:List Sb->Nd->ISt->XO)(R:List Sb->ByteArray->ISt->(List Sb×ByteArray)×ISt)(bin:Bool):Nat->List Sb->ByteArray->List Nd->ISt->Except ISt ((ByteArray×List Nd×Int)×ISt)
 |_,_,t,[],s => .ok ((t,[],0),s)
 |i,sc,t,k :: ks,s =>
  let r:=if bin=true/\i=1 then R sc t s else ((sc,t),s)
  let q:=E r.1.1 k r.2
  if 4000<q.1.cost then .error q.1 else match vb E R bin (i+1) r.1.1 r.1.2 ks q.1 with
   | .error e => .error e
   | .ok ((g,j,o),l) => .ok ((g,q.2.1 :: j,q.2.2+o),l)
def expR(ts:TS)(es:List (ByteArray×Bool)):Nat->List Sb->Nd->Bool->ISt->XO
 | 0,_,n,_,s=>(s,n,0)
 |f+1,sc,n,i,s =>
  if s.cost+1<=4000 then
   if n.op=1 then ((uY sc n (payS 1 s)).2,(uY sc n (payS 1 s)).1.1,(uY sc n (payS 1 s)).1.2)
   else if n.op=47 then match ts.preds.find? fun p=>decide (p.name=n.name) with
    |none=>(payS 1 s,n,1)
    |some p=>match jS (fun k s=>expR ts es f sc k i s) p.params n.kids [] (payS 1 s) with
     | .error g=>(g,nd0,0)
     | .ok (own,g)=>expR ts es f own p.body true g
   else match vb (fun sc k s=>expR ts es f sc k i s) (fun sc t s=>renR ts es sc t i s) (binB n.op) 0 sc n.name n.kids (payS 1 s) with
    | .error g=>(g,nd0,0)
    | .ok ((t,ks,m),g)=>(g,.mk n.op t n.n ks n.pos,1+m)
  else (payS 1 s,nd0,0)
theorem VN{F:Nat}{s s':ISt}{z:Int}(g:Gos F s s' z)(h:StOk F s):StOk F s'/\s.cost<=s'.cost/\z<=4000:=⟨g.ok h,by have:=g.cz;have:=g.z0;omega,by have:=g.cz;have:=g.c1;have:=h.c0;omega⟩
theorem mv{F f:Nat}{E:Nd->ISt->XR (Nd×Int)}{E':Nd->ISt->XO}:∀(ps:List (ByteArray×Int)) (ks:List Nd) (own:IEnv) (i:List Sb) (s:ISt),
  (∀ k,k∈ks->∀ s,StOk F s->4000<s.cost+(f:Int)->OutR (E k s) (E' k s).1 (E' k s).2.1 (E' k s).2.2)->(∀ k n' z s s',k∈ks->StOk F s->E k s = .ok ((n',z),s')->Gos F s s' z) ->
  StOk F s->4000<s.cost+(f:Int)->qZ own->(∀ nm,vD nm i=getK nm own)->(∀ e,e∈i->0<=e.2.size/\e.2.size<=4000) ->
  match y5 E ps ks own s with
  | .error _=>∃ t,jS E' ps ks i s = .error t/\4000<t.cost/\t.cost<=9000
  | .ok (l,s')=>∃ j,jS E' ps ks i s = .ok (j,s')/\qZ l/\(∀ nm,vD nm j=getK nm l)/\(∀ e,e∈j->0<=e.2.size/\e.2.size<=4000)/\StOk F s'/\s.cost<=s'.cost
 | [],ks,own,i,s,_,_,o,_,J,P,R=>by simp only[y5,jS];exact⟨i,rfl,J,P,R,o,jw _⟩
 |p :: ps,[],own,i,s,_,_,o,_,J,P,R=>by simp only[y5,jS];exact⟨i,rfl,J,P,R,o,jw _⟩
 |p :: ps,k :: ks,own,i,s,hE,hG,o,hf,J,P,R=>by
  simp only[y5,jS];have C:=hE k (qU ..) s o hf;have h2:=fun n' z s'=>hG k n' z s s' (qU ..) o
  generalize E' k s=Q at *
  cases U:E k s with
  |error d =>
   rw[U]at C;simp only;rw[if_pos C.1];exact⟨_,rfl,C.1,C.2.1⟩
  |ok r =>
   obtain⟨⟨m,y⟩,t⟩:=r;rw[U]at C;obtain⟨e1,e2,e3⟩:=C;have g:=h2 m y t U;obtain⟨g1,g2,g3⟩:=VN g o;have hc:=g.c1;simp only;rw[if_neg (by rw[e3];omega),e1,e2,e3];have T:=mv (F:=F) (f:=f) ps ks (setK p.1 ⟨some m,y,⟨#[]⟩⟩ own) (i++[(p.1,⟨some m,y,⟨#[]⟩⟩)]) t (fun k hk=>hE k (qO _ hk)) (fun k n' z s s' hk=>hG k n' z s s' (qO _ hk)) g1 (by omega) (J.set ⟨g.z0,g3⟩) (fun nm=>by
    rw[VM,uc,P];by_cases e:p.1=nm
    .rw [if_pos e,if_pos e.symm]
    .rw [if_neg e,if_neg fun x=>e x.symm]) (fun e I=>by
    rcases qG.1 I with I|I
    .exact R e I
    .rw [qN]at I;subst I;exact⟨g.z0,g3⟩)
   cases hx:y5 E ps ks (setK p.1 ⟨some m,y,⟨#[]⟩⟩ own) t with
   |error d=>rw[hx]at T;exact T
   |ok r =>
    obtain⟨l,s'⟩:=r;rw[hx]at T;obtain⟨L,a1,a2,a3,a4,a5,a6⟩:=T;exact⟨L,a1,a2,a3,a4,a5,by omega⟩
theorem mw{ts:TS}{env:IEnv}{sc:List Sb}{nm:ByteArray}{body:Bool}{s:ISt}(o:qZ env)(h:ScOf ts body sc env) :
  ScOf ts body (renR ts es sc nm body s).1.1 (renI ts es env nm body s).1.1/\(renR ts es sc nm body s).1.2=(renI ts es env nm body s).1.2/\(renR ts es sc nm body s).2=(renI ts es env nm body s).2:=by
 unfold renR renI;by_cases g:body=true\/means ts nm≠[]
 .rw [if_pos g,if_pos g]
  refine⟨⟨fun x=>?_,fun j x v i=>?_,fun e l=>?_⟩,rfl,rfl⟩
  .simp only
   rw[VM,uc,wh o.nd,h.look];by_cases e:nm=x
   .rw [if_pos e,if_pos e.symm]
   .rw [if_neg e,if_neg fun y=>e y.symm,if_neg fun y=>e y.symm]
  .simp only at i
   rw[uc,wh o.nd]at i;by_cases e:x=nm
   .rw [e]
    rcases g with g|g
    .rw [g]at j;cases j
    .exact g
   .rw [if_neg e,if_neg e]at i
    exact h.own j x v i
  .rcases qG.1 l with l|l
   .exact h.sz e l
   .rw [qN]at l;subst l;exact⟨by simp,by simp⟩
 .rw [if_neg g,if_neg g]
  refine⟨⟨fun x=>?_,fun j x v i=>?_,h.sz⟩,rfl,rfl⟩
  .simp only
   rw[wh o.nd,h.look];by_cases e:x=nm
   .rw [if_pos e]
    cases p:getK x env with
    |none=>rfl
    |some v =>
     have j:body=false:=by cases body<;>simp_all
     exact absurd (h.own j x v p) (by rw[e];exact fun y=>g (.inr y))
   .rw [if_neg e]
  .simp only at i
   rw[wh o.nd]at i;split at i
   .cases i
   .exact h.own j x v i
theorem my{ts:TS}{es:List (ByteArray×Bool)}(I:Free ts es){f:Nat}{body:Bool}{E:IEnv->Nd->ISt->XR (Nd×Int)}{E':List Sb->Nd->ISt->XO}{bin:Bool}:∀(ks:List Nd) (i:Nat) (env:IEnv) (sc:List Sb) (nm:ByteArray) (s:ISt),
  (∀ k,k∈ks->∀ env sc s,StOk (qu ts es) s->4000<s.cost+(f:Int)->qZ env->ScOf ts body sc env->OutR (E env k s) (E' sc k s).1 (E' sc k s).2.1 (E' sc k s).2.2) ->
  (∀ env k n' z s s',k∈ks->StOk (qu ts es) s->qZ env->E env k s = .ok ((n',z),s')->Gos (qu ts es) s s' z) ->
  0<=s.last->0<=s.cost->s.cost<=4000->dueN (qu ts es) bin i<=pot (qu ts es) s->4000<s.cost+(f:Int)->qZ env->ScOf ts body sc env ->
  match yR E (fun env nm s=>renI ts es env nm body s) bin i env nm ks s with
  | .error _=>∃ t,vb E' (fun sc nm s=>renR ts es sc nm body s) bin i sc nm ks s = .error t/\4000<t.cost/\t.cost<=9000
  | .ok r=>vb E' (fun sc nm s=>renR ts es sc nm body s) bin i sc nm ks s = .ok r
 | [],i,env,sc,nm,s,_,_,_,_,_,_,_,_,_=>by simp only[yR,vb]
 |k :: ks,i,env,sc,nm,s,hE,hG,l0,c0,c1,hp,hf,U,J=>by
  simp only[yR,vb];obtain⟨r,P⟩:∃ r,(if bin=true/\i=1 then renI ts es env nm body s else ((env,nm),s))=r:=⟨_,rfl⟩;obtain⟨l,j⟩:∃ l,(if bin=true/\i=1 then renR ts es sc nm body s else ((sc,nm),s))=l:=⟨_,rfl⟩;have hR:ScOf ts body l.1.1 r.1.1/\l.1.2=r.1.2/\l.2=r.2/\qZ r.1.1/\StOk (qu ts es) r.2/\r.2.cost=s.cost/\dueN (qu ts es) bin (i+1)<=pot (qu ts es) r.2:=by
   by_cases hb:bin=true/\i=1
   .rw [if_pos hb]at P j
    subst P;subst j;obtain⟨a1,a2,a3⟩:=mw (es:=es) (nm:=nm) (s:=s) U J;have a4:=Vl (ts:=ts) (es:=es) (nm:=nm) (body:=body) (s:=s) U;obtain⟨b1,b2,R⟩:=Vm (body:=body) (nm:=nm) (env:=env) I l0;have hd:dueN (qu ts es) bin i=(qu ts es:Int):=by unfold dueN;rw[if_pos ⟨hb.1,by omega⟩]
    have a0:dueN (qu ts es) bin (i+1)=0:=by unfold dueN;rw[if_neg (by omega)]
    rw[hd]at hp;have o:0<=pot (qu ts es) (renI ts es env nm body s).2:=by
     unfold pot at hp⊢;rw[R];omega
    exact⟨a1,a2,a3,a4,⟨b1,by rw[R];exact c0,by rw[R];exact c1,o⟩,R,by rw[a0];exact o⟩
   .rw [if_neg hb]at P j
    subst P;subst j;have hd:dueN (qu ts es) bin (i+1)<=dueN (qu ts es) bin i:=by
     unfold dueN;split
     .rename_i h
      rw[if_pos ⟨h.1,by omega⟩];exact jw _
     .split<;>omega
    have a5:0<=dueN (qu ts es) bin i:=by unfold dueN;split<;>omega
    exact⟨J,rfl,rfl,U,⟨l0,c0,c1,by show 0<=pot (qu ts es) s;omega⟩,rfl,by show _<=pot (qu ts es) s;omega⟩
  rw[P,j];obtain⟨q1,q2,q3,q4,q5,q6,q7⟩:=hR;rw[q2,q3];have C:=hE k (qU ..) r.1.1 l.1.1 r.2 q5 (by omega) q4 q1;have h2:=fun n' z s'=>hG r.1.1 k n' z r.2 s' (qU ..) q5 q4
  generalize E' l.1.1 k r.2=Q at *
  cases hq:E r.1.1 k r.2 with
  |error d =>
   rw[hq]at C;simp only;rw[if_pos C.1];exact⟨_,rfl,C.1,C.2.1⟩
  |ok x =>
   obtain⟨⟨m,y⟩,t⟩:=x;rw[hq]at C;obtain⟨e1,e2,e3⟩:=C;have g:=h2 m y t hq;obtain⟨g1,g2,g3⟩:=VN g q5;have hc:=g.c1;have a6:=g.p;simp only;rw[if_neg (by rw[e3];omega),e1,e2,e3];have T:=my I (f:=f) (body:=body) (E:=E) (E':=E') (bin:=bin) ks (i+1) r.1.1 l.1.1 r.1.2 t (fun k hk=>hE k (qO _ hk)) (fun env k n' z s s' hk=>hG env k n' z s s' (qO _ hk)) g1.l0 g1.c0 g1.c1 (by omega) (by omega) q4 q1;cases hx:yR E (fun env nm s=>renI ts es env nm body s) bin (i+1) r.1.1 r.1.2 ks t with
   |error d =>
    rw[hx]at T;obtain⟨t',a1,a2,a3⟩:=T;rw[a1];exact⟨t',rfl,a2,a3⟩
   |ok x =>
    obtain⟨⟨a7,a8,m'⟩,a9⟩:=x;rw[hx]at T;rw[T]
theorem Zr(ts:TS)(es:List (ByteArray×Bool))(i:Free ts es)(hb:∀ p,p∈ts.preds->WfN p.body/\jt ts p.body):∀(f:Nat) (env:IEnv) (sc:List Sb) (n:Nd) (body:Bool) (s:ISt),
  4000<s.cost+(f:Int)->StOk (qu ts es) s->qZ env->WfN n->jt ts n->ScOf ts body sc env->OutR (expI ts es f env n body s) (expR ts es f sc n body s).1 (expR ts es f sc n body s).2.1 (expR ts es f sc n body s).2.2
 | 0,env,sc,n,body,s,hf,g,_,_,_,_=>by have:=g.c1;omega
 |f+1,env,sc,n,body,s,hf,g,o,hw,C,l=>by
  have a8:=g.c0;have a9:=g.c1;have I:(payS 1 s).cost=s.cost+1:=rfl;simp only[expI,expR];by_cases J:s.cost+1<=4000
  case neg =>
   rw[if_neg J,if_neg J];exact⟨by rw[I];omega,by rw[I];omega,by simp,by simp⟩
  rw[if_pos J,if_pos J];have r:=(Qa g (n:=1) (by omega) J).ok g;by_cases h1:n.op=1
  .rw [if_pos h1,if_pos h1]
   unfold uY wq;rw[l.look];cases hg:getK n.name env with
   |none=>exact⟨rfl,rfl,rfl⟩
   |some v =>
    have hv:=o.sz _ ((Z5 o.nd).1 hg);have hv:0<=v.size/\v.size<=4000:=hv;simp only;cases P:v.arg with
    |none=>exact⟨rfl,rfl,rfl⟩
    |some a =>
     simp only;have e2:(payS v.size (payS 1 s)).cost=(payS 1 s).cost+v.size:=rfl;by_cases R:(payS 1 s).cost+v.size<=4000
     .rw [if_pos R];exact⟨rfl,rfl,rfl⟩
     .rw [if_neg R]
      exact⟨by rw[e2];omega,by rw[e2];omega,hv.1,hv.2⟩
  rw[if_neg h1,if_neg h1];by_cases h47:n.op=47
  .rw [if_pos h47,if_pos h47]
   obtain⟨p,T,a7⟩:=C n (vA n) h47;have a0:=List.mem_of_find?_eq_some T;rw[T];simp only;have P:=mv (F:=qu ts es) (f:=f) (E:=fun k s=>expI ts es f env k body s) (E':=fun k s=>expR ts es f sc k body s) p.params n.kids [] [] (payS 1 s)
    (fun k j s g hf=>Zr ts es i hb f env sc k body s hf g o (hw.kid j) (C.kid j) l)
    (fun k n' z s s' j g e=>j9 ts i f g o e) r (by rw[I];omega) .nil (fun nm=>rfl) (fun e hm=>absurd hm qI)
   cases U:y5 (fun k s=>expI ts es f env k body s) p.params n.kids [] (payS 1 s) with
   |error d =>
    rw[U]at P;obtain⟨t,a1,a2,a3⟩:=P;rw[a1];exact⟨a2,a3,by simp,by simp⟩
   |ok x =>
    obtain⟨own,s'⟩:=x;rw[U]at P;obtain⟨L,a1,a2,a3,a4,a5,a6⟩:=P;rw[a1];obtain⟨b1,b2⟩:=hb p a0;exact Zr ts es i hb f own L p.body true s' (by rw[I]at a6;omega) a5 a2 b1 b2 ⟨a3,fun h=>absurd h (by simp),a4⟩
  .rw [if_neg h47,if_neg h47]
   have j:=my i (f:=f) (body:=body) (E:=fun env k s=>expI ts es f env k body s) (E':=fun sc k s=>expR ts es f sc k body s) (bin:=binB n.op) n.kids 0 env sc n.name (payS 1 s)
    (fun k j env sc s g hf o l=>Zr ts es i hb f env sc k body s hf g o (hw.kid j) (C.kid j) l)
    (fun env k n' z s s' j g o e=>j9 ts i f g o e) r.l0 r.c0 r.c1 (by
     rw[Zi];have:=g.p;unfold dueN;split<;>omega) (by rw[I];omega) o l
   cases U:yR (fun env k s=>expI ts es f env k body s) (fun env nm s=>renI ts es env nm body s) (binB n.op) 0 env n.name n.kids (payS 1 s) with
   |error d =>
    rw[U]at j;obtain⟨t,a1,a2,a3⟩:=j;rw[a1];exact⟨a2,a3,by simp,by simp⟩
   |ok x =>
    obtain⟨⟨nm,ks,m⟩,s'⟩:=x;rw[U]at j;rw[j];exact⟨rfl,rfl,rfl⟩
end
end QY
namespace QZ
open YF Y9 Y1 YX YB YC P1 P2 PA QE QI QS QT QX QY
section
variable {mu:Mu}
abbrev eXO(ts:TS)(l:List ByteArray)(q:XO):AV := .tup [eWk ts l q.1,eNd q.2.1,aI q.2.2]
theorem VO(x:Sb):∀ c,c∈cSb x->HF c:=fun c g=>by
 rcases qG.1 g with g|g
 .rcases qG.1 g with g|g
  .simp only[qw,qI,or_false]at g
   rcases g with rfl|rfl|rfl<;>exact HF.sc _
  .exact qkE _ c g
 .rw [qN]at g;subst g;exact HF.sc _
theorem qkF(x:Sb):(cSb x).length=9:=by simp[qkD]
theorem Zs(l:List Sb):zj 9 (l.map cSb):=fun r g=>by
 obtain⟨x,_,rfl⟩:=qp.1 g;refine⟨qkF x,?_⟩;obtain⟨t,⟨a,z,w⟩⟩:=x;cases a<;>simp[yw,go_sem]
theorem mz(l:List Sb):HF (lSb l):=HF.lst fun r g c i=>by
 obtain⟨x,_,rfl⟩:=qp.1 g;exact VO x c i
theorem wkX(ts:TS)(l:List ByteArray)(s:ISt)(sc:List Sb)(n:Nd)(b:Bool):WKs [eWk ts l s,lSb sc,eNd n,aB b] [eWk ts l s,lSb sc,eNd n,aB b] := .cons (.hf (uo ts l s)) (.cons (.hf (mz sc)) (.cons (.hf (ze n)) (.cons (.hf (HF.sc _)) .nil)))
theorem XB(ts:TS)(l:List ByteArray)(q:XO):HF (eXO ts l q):=HF.tup fun x g=>by
 simp only[qw,qI,or_false]at g;rcases g with rfl|rfl|rfl
 .exact uo ts l _
 .exact ze _
 .exact HF.sc _
structure Pre (ts:TS) (es:List (ByteArray×Bool)) (f:Nat) (env:IEnv) (sc:List Sb) (n:Nd) (body:Bool) (s:ISt):Prop where
 fu:4000<s.cost+(f:Int)
 st:StOk (qu ts es) s
 en:qZ env
 wf:WfN n
 cl:jt ts n
 so:ScOf ts body sc env
 le:(sc.length:Int)<=s.cost+8
theorem rd0:Rd mu (.agg [aI 0,aS ⟨#[]⟩,aI 0,.lst true [],aI 0]) (eNd nd0) := .agg _ _ rfl fun k x y g i=>by
 match k,g,i with
 | 0,g,i=>cases g;cases i;exact .hf _ (HF.sc _)
 | 1,g,i=>cases g;cases i;exact .hf _ (HF.sc _)
 | 2,g,i=>cases g;cases i;exact .hf _ (HF.sc _)
 | 3,g,i=>cases g;cases i;exact .wk _ true _ (.hf _ (HF.lst fun r j=>absurd j qI))
 | 4,g,i=>cases g;cases i;exact .hf _ (HF.sc _)
 |k+5,g,i=>cases g
theorem rdZ(ts:TS)(l:List ByteArray)(s:ISt):Rd mu (.tup [eWk ts l s,.agg [aI 0,aS ⟨#[]⟩,aI 0,.lst true [],aI 0],aI 0]) (eXO ts l (s,nd0,0)) := .tup _ _ rfl fun k x y g i=>by
 match k,g,i with
 | 0,g,i=>cases g;cases i;exact .hf _ (uo ts l s)
 | 1,g,i=>cases g;cases i;exact rd0
 | 2,g,i=>cases g;cases i;exact .hf _ (HF.sc _)
 |k+3,g,i=>cases g
theorem mA{lo:Nat}{s:AV}{xs:List Sb}{y:Sb}{K:AV->Mu->Prop}(g:OwnF lo mu 9 s (xs.map cSb))(t:xs.length<=100000)(o:∀ av l,OwnF lo l 9 av ((xs++[y]).map cSb)->(∀ i,i<lo->l[i]?=mu[i]?)->K av l) :
  qD qc mu #[269,269] s (.lst true [cSb y]) K:=by
 refine qD.ownF (lo:=lo) (e:=279) (sz:=9) (bt:=112) (zv := .agg [aS ⟨#[]⟩,aS ⟨#[]⟩,aB false,aI 0,aS ⟨#[]⟩,aI 0,.lst true [],aI 0,aI 0]) (xs:=xs.map cSb) (ys:=[cSb y]) (by simp[go_sem]) (by simp[go_sem]) (by simp[go_sem]) rfl rfl (by omega) (by omega) g (by simp[qM]) (Zs xs) (Zs [y]) (by simp;omega) ?_;intro av l h r;exact o av l (by rw[zg];exact h) r
abbrev ExpW(ts:TS)(l:List ByteArray)(es:List (ByteArray×Bool))(f:Nat)(sc:List Sb)(n:Nd)(body:Bool)(s:ISt):Prop:=
 qe qc 136 [eWk ts l s,lSb sc,eNd n,aB body] (eXO ts l (expR ts es f sc n body s))
theorem expN(ts:TS)(l:List ByteArray)(es:List (ByteArray×Bool))(f:Nat)(env:IEnv)(sc:List Sb)(n:Nd)(body:Bool)(s:ISt)(p:Pre ts es (f+1) env sc n body s)(j:s.cost+1<=4000)(i:n.op=1):ExpW ts l es (f+1) sc n body s:=by
 have o:=p.st.c0;have I:=p.le;have r:=leafU ts l sc (by omega) n (payS 1 s) ⟨by show 0<=s.cost+1;omega,by show s.cost+1<=_;omega⟩ (fun e t=>by have:=p.so.sz e t;omega);unfold ExpW;simp only[expR];rw[if_pos j,if_pos i];have C:qi.wrap (s.cost+1)=s.cost+1:=qg (by omega) (by omega);have g:¬ 4000<s.cost+1:=by omega
 generalize uY sc n (payS 1 s)=Q at *
 refine qSQ call136 func136 rfl { mt:=[4] } ?_;simp[go_sem,C,g,i,qR];refine qd.pure r (.cons (.hf (uo ts l (payS 1 s))) (.cons (.hf (mz sc)) (.cons (.hf (ze n)) .nil))) ?_;simp[go_sem,qR];exact .hf _ (XB ts l (Q.2,Q.1.1,Q.1.2))
theorem expZ(ts:TS)(l:List ByteArray)(es:List (ByteArray×Bool))(f:Nat)(env:IEnv)(sc:List Sb)(n:Nd)(body:Bool)(s:ISt)(p:Pre ts es (f+1) env sc n body s)(i:¬s.cost+1<=4000):ExpW ts l es (f+1) sc n body s:=by
 have j:=p.st.c0;have o:=p.st.c1;unfold ExpW;simp only[expR];rw[if_neg i];have r:qi.wrap (s.cost+1)=s.cost+1:=qg (by omega) (by omega);have g:4000<s.cost+1:=by omega
 refine qSQ call136 func136 rfl { mt:=[4] } ?_;simp[go_sem,r,g,qR];exact rdZ ts l (payS 1 s)
def repR(ts : TS)(es : List (ByteArray × Bool))(f : Nat)(sc : List Sb)(n : Nd)(body : Bool)(s : ISt)(p : Pd) : XO := match jS (fun k s => expR ts es f sc k body s) p.params n.kids [] s with
          | .error g=>(g,nd0,0)
          | .ok (own,g)=>expR ts es f own p.body true g
theorem expC(ts:TS)(l:List ByteArray)(es:List (ByteArray×Bool))(f:Nat)(env:IEnv)(sc:List Sb)(n:Nd)(body:Bool)(s:ISt)(p:Pre ts es (f+1) env sc n body s)(j:s.cost+1<=4000)(h47:n.op=47)(g:Pd)(o:(ts.preds.find? fun p=>decide (p.name=n.name))=some g)
  (r:qe qc 210 [eWk ts l (payS 1 s),lSb sc,eNd n,aB body] (eXO ts l (repR ts es f sc n body (payS 1 s) g))):ExpW ts l es (f+1) sc n body s:=by
 have t:=p.st.c0;unfold ExpW;simp only[expR];rw[if_pos j,if_neg (by omega),if_pos h47,o];simp only;have C:qi.wrap (s.cost+1)=s.cost+1:=qg (by omega) (by omega);have i:¬ 4000<s.cost+1:=by omega
 show qe qc 136 [eWk ts l s,lSb sc,eNd n,aB body] (eXO ts l (repR ts es f sc n body (payS 1 s) g));generalize repR ts es f sc n body (payS 1 s) g=Q at *
 refine qSQ call136 func136 rfl { mt:=[4] } ?_;simp[go_sem,C,i,h47,qR];refine qd.pure r (wkX ts l (payS 1 s) sc n body) ?_;simp[go_sem,qR];exact .hf _ (XB ts l Q)
theorem replW(ts:TS)(h:okTS ts)(l:List ByteArray)(es:List (ByteArray×Bool))(ag:Free ts es)(hb:∀ p,p∈ts.preds->WfN p.body/\jt ts p.body)(f:Nat)(ih:∀ env sc n body s,Pre ts es f env sc n body s->ExpW ts l es f sc n body s)(env:IEnv)(sc:List Sb)(n:Nd)(body:Bool)(s:ISt)(p:Pre ts es f env sc n body s)(h47:n.op=47)
  (R:Pd) (hp:(ts.preds.find? fun p=>decide (p.name=n.name))=some R) (ax:R.params.length=n.kids.length):qe qc 210 [eWk ts l s,lSb sc,eNd n,aB body] (eXO ts l (repR ts es f sc n body s R)):=by
 have a7:=List.mem_of_find?_eq_some hp;have az:=(h.pl R a7).1;have b0:=h.np;obtain⟨i,hi,a1,ah⟩:∃ i,∃ hi:i<ts.preds.length,ts.preds[i]=R/\zf (ckR ts ts.preds.length) n.name=some i:=by
  cases hc:zf (ckR ts ts.preds.length) n.name with
  |none =>
   unfold zf at hc;rw[List.findIdx?_eq_none_iff]at hc;have:=hc R (by show R∈ts.preds.take ts.preds.length;rw[q8];exact a7);have h2:=List.find?_some hp;rw[h2]at this;cases this
  |some i =>
   obtain⟨h1,h2⟩:=Qy (VI h (qs _)) hc;have h2:i<ts.preds.length:=h2;have h3:=PF.nv hc h2;have h3:(ts.preds.find? fun p=>decide (p.name=n.name))=some ts.preds[i]:=h3;rw[hp]at h3;exact⟨i,h2,(Option.some.inj h3).symm,rfl⟩
 have cp:=YI (ckR ts ts.preds.length) (VI h (qs _)) n.name;rw[ah]at cp;have C:=JW;have a8:¬(i:Int)<0:=by omega
 obtain⟨E',hE⟩:∃ E':Nd->ISt->XO,E'=fun k s=>expR ts es f sc k body s:=⟨_,rfl⟩
 obtain⟨a5,a6⟩:∃ a5,a5=repR ts es f sc n body s R:=⟨_,rfl⟩;have ak:∀ k,k∈n.kids->∀ o,StOk (qu ts es) o->s.cost<=o.cost->qe qc 136 [eWk ts l o,lSb sc,eNd k,aB body] (eXO ts l (E' k o)):=fun k hk o I a8=>by
  rw[hE];exact ih env sc k body o ⟨by have:=p.fu;omega,I,p.en,p.wf.kid hk,p.cl.kid hk,p.so,by have:=p.le;omega⟩
 have al:∀ k,k∈n.kids->∀ o,StOk (qu ts es) o->s.cost<=o.cost->4000<(E' k o).1.cost\/(¬ 4000<(E' k o).1.cost/\Gos (qu ts es) o (E' k o).1 (E' k o).2.2):=fun k hk o I a8=>by
  have ho:=Zr ts es ag hb f env sc k body o (by have:=p.fu;omega) I p.en (p.wf.kid hk) (p.cl.kid hk) p.so;have an:E' k o=expR ts es f sc k body o:=by rw[hE]
  rw[an];cases hx:expI ts es f env k body o with
  |error d=>rw[hx]at ho;exact .inl ho.1
  |ok r =>
   obtain⟨⟨m,y⟩,t⟩:=r;rw[hx]at ho;obtain⟨e1,e2,e3⟩:=ho;have g:=j9 ts ag f I p.en hx;rw[e2,e3];exact .inr ⟨by have:=g.c1;omega,g⟩
 have ao:∀ t,jS E' R.params n.kids [] s = .error t->a5=(t,nd0,0):=fun t ht=>by
  rw[a6];unfold repR;rw[<-hE,ht]
 have aq:∀ own t O,jS E' R.params n.kids [] s = .ok (own,t)->StOk (qu ts es) t->s.cost<=t.cost->qZ O->(∀ nm,vD nm own=getK nm O)->(∀ e,e∈own->0<=e.2.size/\e.2.size<=4000)->own.length<=8->qe qc 136 [eWk ts l t,lSb own,eNd R.body,aB true] (eXO ts l a5):=fun own t O ht I a8 hO a9 aa h8=>by
  have e:a5=expR ts es f own R.body true t:=by rw[a6];unfold repR;rw[<-hE,ht]
  rw[e];have b1:=I.c0;exact ih O own R.body true t ⟨by have:=p.fu;omega,I,hO,(hb R a7).1,(hb R a7).2,⟨a9,fun h=>absurd h (by simp),aa⟩,by omega⟩
 rw[<-a6];have ai:=p.st;clear a6 hE ih;refine qSQ call210 func210 rfl { mt:=[4] } ?_;simp[go_sem,qR];refine qd.pure cp (.cons (.hf (zq ts)) (.cons (.hf (HF.sc _)) (.cons (.hf (HF.sc _)) .nil))) ?_;simp[go_sem,qR,idxO,a8];refine qk.upK n.kids.length (fun k st=>∃(o:ISt) (L:List Sb) (O:IEnv),st.tm 1=lSb sc/\st.tm 3=aB body/\st.tm 4 = .ptr 0 0/\st.tm 6 = .ip (cNd n)/\st.tm 8 = .ptr 1 0/\st.tm 9 = .ptr 2 0/\st.tm 12=aI i/\st.tm 14=aI k/\st.mu[0]?=some (.arr (cWk ts l o))/\st.mu[1]?=some (.arr zWk)/\st.mu[2]?=some (.arr [aI 0,aS ⟨#[]⟩,aI 0,.lst true [],aI 0])/\OwnF 3 st.mu 9 (st.tm 13) (L.map cSb)/\jS E' R.params n.kids [] s=jS E' (R.params.drop k) (n.kids.drop k) L o/\StOk (qu ts es) o/\s.cost<=o.cost/\qZ O/\(∀ nm,vD nm L=getK nm O)/\(∀ e,e∈L->0<=e.2.size/\e.2.size<=4000)/\L.length=k) ?_ ?_
 .exact ⟨s,[],[],by simp[go_sem],by simp[go_sem],by simp[go_sem],by simp[go_sem],by simp[go_sem],by simp[go_sem],by simp[go_sem],by simp[go_sem],by simp[go_sem],by simp[go_sem],by simp[go_sem],by simp[go_sem];exact OwnF.nil (by simp),rfl,ai,jw _,.nil,fun nm=>rfl,fun e he=>absurd he qI,rfl⟩
 rintro k st hk ⟨o,L,O,e1,e3,e4,e6,e8,e9,a0,a2,m0,m1,m2,ho,hI,I,ab,hO,a9,aa,ar⟩;generalize a3:st.tm 13=P at *
 obtain⟨rr,T⟩:=Xt m0 m1 m2;have b2:st.mu.length=rr.length+3:=by rw[T];rfl
 have ay:n.kids.length<=8:=by omega
 by_cases J:k<n.kids.length
 .have a4:k<R.params.length:=by omega
  have w1:qi.wrap ((k:Int)+1)=(k:Int)+1:=qg (by omega) (by omega);rw[zG J,zG a4]at hI;simp only[jS]at hI;have x1:=ak n.kids[k] (qy J) o I ab;have x2:=al n.kids[k] (qy J) o I ab;generalize E' n.kids[k] o=q at *
  clear m0 m1 m2;simp[go_sem,e1,e3,e4,e6,e8,e9,a0,a2,a3,T,J,a4,hi,a1,C,qR];refine qm.seg [0,1,2,3,4,5,6,7,8,9,10,11,12,17,13,14,15,16] [(0,0,[]),(1,0,[]),(2,0,[]),(3,0,[]),(4,0,[]),(5,0,[]),(6,0,[]),(7,0,[]),(8,1,[]),(9,0,[]),(10,0,[]),(11,0,[]),(12,0,[]),(17,0,[]),(13,2,[0,3,6]),(14,2,[0,3,6]),(15,1,[]),(16,1,[])] (by kernel_rfl) (by kernel_rfl) (by simp[go_sem]) ?_;simp[go_sem,e1,e3,e4,e6,e8,e9,a0,a2,a3,T,J,a4,hi,a1,C,qR];refine qd.pure x1 (wkX ts l o sc n.kids[k] body) ?_;simp[go_sem,e1,e3,e4,e6,e8,e9,a0,a2,a3,T,J,a4,hi,a1,C,qR];by_cases U:4000<q.1.cost
  .have au:a5=(q.1,nd0,0):=ao _ (by rw[hI,if_pos U])
   simp[go_sem,e1,e3,e4,e6,e8,e9,a0,a2,a3,T,J,a4,hi,a1,C,qR,U];rw[au];exact rdZ ts l q.1
  .rcases x2 with x2|⟨_,g⟩
   .exact absurd x2 U
   rw[if_neg U]at hI;simp[go_sem,e1,e3,e4,e6,e8,e9,a0,a2,a3,T,J,a4,hi,a1,C,qR,U];refine qm.intro (by kernel_rfl) ?_;simp[go_sem,e1,e3,e4,e6,e8,e9,a0,a2,a3,T,J,a4,hi,a1,C,qR,U];obtain⟨g1,g2,g3⟩:=VN g I;have gz:=g.z0;have hy:(AV.sc (.string R.params[k].1) :: AV.sc (.string ⟨#[]⟩) :: AV.sc (.bool true) :: (cNd q.2.1++[AV.sc (.int .i64 q.2.2)]))=cSb (R.params[k].1,⟨some q.2.1,q.2.2,⟨#[]⟩⟩):=by simp[go_sem]
   rw[hy];generalize ad:(R.params[k].1,(⟨some q.2.1,q.2.2,⟨#[]⟩⟩:IV))=en at *
   refine mA (lo:=3) (xs:=L) (y:=en) ?_ (by omega) ?_
   .have h1:OwnF 3 (st.mu++[Cell.arr (cWk ts l q.1),Cell.arr (cNd q.2.1)]) 9 P (L.map cSb):=YD.gA ho (by simp;omega) fun i _ hi=>qx hi
    rw[T]at h1;have h2:=OwnF.set (i:=0) (c:=Cell.arr (cWk ts l q.1)) h1 (by omega);simpa using h2
   intro b3 b4 ae af;have n0:=af 0 (by omega);have n1:=af 1 (by omega);have n2:=af 2 (by omega);simp at n0 n1 n2;obtain⟨r2,aj⟩:=Xt n0 n1 n2;simp[go_sem,e1,e3,e4,e6,e8,e9,a0,a2,a3,aj,J,a4,hi,a1,C,qR,U,w1];refine Keep.mk' ⟨q.1,L++[en],setK en.1 en.2 O,by simp[go_sem,e1],by simp[go_sem,e3],by simp[go_sem,e4],by simp[go_sem,e6],by simp[go_sem,e8],by simp[go_sem,e9],by simp[go_sem,a0],by simp[go_sem],by simp[go_sem],by simp[go_sem],by simp[go_sem],?_,?_,g1,?_,?_,?_,?_,?_⟩
   .have h2:=OwnF.set (i:=0) (c:=Cell.arr (cWk ts l q.1)) ae (by omega)
    simp[go_sem];rw[aj]at ae;simpa using ae
   .rw [hI,<-ad]
   .omega
   .rw [<-ad];exact hO.set ⟨gz,g3⟩
   .intro nm
    rw[VM,uc,a9];by_cases e:en.1=nm
    .rw [if_pos e,if_pos e.symm]
    .rw [if_neg e,if_neg fun x=>e x.symm]
   .intro e he
    rcases qG.1 he with he|he
    .exact aa e he
    .rw [qN]at he;subst he;rw[<-ad];exact⟨gz,g3⟩
   .simp [ar]
 .simp [go_sem,e1,e3,e4,e6,e8,e9,a0,a2,a3,T,J,hi,a1,C,qR]
  refine qm.seg [0,1,2,3,4,5,6,7,8,9,10,11,12,15,13,14] [(0,0,[]),(1,0,[]),(2,0,[]),(3,0,[]),(4,0,[]),(5,0,[]),(6,0,[]),(7,0,[]),(8,0,[]),(9,1,[]),(10,0,[]),(11,0,[]),(12,0,[]),(15,0,[]),(13,1,[]),(14,1,[])] (by kernel_rfl) (by kernel_rfl) (by simp[go_sem]) ?_;simp[go_sem,e1,e3,e4,e6,e8,e9,a0,a2,a3,T,J,hi,a1,C,qR];refine qd.eff0 (qP.freeze (args1:=[eWk ts l o,lSb L,eNd R.body,aB true]) (fun j=>decide (3<=j)) ⟨.inl rfl,.inr ?_,.inl rfl,.inl rfl,trivial⟩ (qe.toSound _ (aq L o O ?_ I ab hO a9 aa (by omega)) (wkX ts l o L R.body true))) ?_ ?_
  .have h1:=Y13.qeW ho (Zs L).ok fun r hr c hc=>by
    obtain⟨x,_,rfl⟩:=qp.1 hr;exact VO x c hc
   rw[T]at h1;exact h1
  .rw [hI,YP (by omega),YP (by omega)];rfl
  .rintro r m ⟨hv,rfl⟩
   cases hv;simp[go_sem,cutM,qR,e1,e3,e4,e6,e8,e9];exact .hf _ (XB ts l a5)
  .rintro r m ⟨hv,rfl⟩
   cases hv
end
end QZ
set_option maxHeartbeats 1000000
end Go.Proofs.YtpagnklaanbmbaaGreatDoor
namespace Go.Ev
theorem awp.cut{P:qb}{pl:Pol}{l j g C:j3}{i:Nat}{Q:qQ->St->Prop}{st:St}(J:St->Prop)
  (h:awp P pl l (seqQ (awp P pl j (seqQ (Keep J .mk) (jZ i (seqQ (awp P pl C Q) Q)))) Q) st)
  (o:∀ st,J st->awp P pl g (jZ i (seqQ (awp P pl C Q) Q)) st):awp P pl (.seq l (.seq (.block i (.seq j g)) C)) Q st:=by
 refine awp.mono l (Q:=seqQ (awp P pl j (seqQ (Keep J .mk) (jZ i (seqQ (awp P pl C Q) Q)))) Q) h (fun e st h=>?_);cases e with
 |normal =>
  refine awp.mono j (Q:=seqQ (Keep J .mk) (jZ i (seqQ (awp P pl C Q) Q))) h (fun e st h=>?_);cases e with
  |normal=>exact o st h
  |exit i=>exact h
  |ret=>exact h
  |pan v=>exact h
 |exit i=>exact h
 |ret=>exact h
 |pan v=>exact h
theorem qkG{K:St->Prop}(J:St->Prop){st:St}(h:FzQ (fun _=>J) (.exit 0) st)(k:∀ st2,J st2->K st2):FzQ (fun _ st=>K st) (.exit 0) st:=by
 obtain⟨g,f,q,j⟩:=h;exact⟨g,f,q,k _ j⟩
end Go.Ev
namespace Go.Proofs.YtpagnklaanbmbaaGreatDoor
open Go Go.Ev Go.Proofs Tryz
namespace RA
open YF Y9 Y1 YX YA YB YC P1 P2 PA QD QE QK QX QY QZ
section
variable {av:AV}{es:List (ByteArray×Bool)}{l:List ByteArray}
theorem four{C:Type}{l:List C}{a b c d:C}(g:l[0]?=some a)(i:l[1]?=some b)(j:l[2]?=some c)(o:l[3]?=some d):∃ r,l=a :: b :: c :: d :: r:=by
 match l,g,i,j,o with
 |_ :: _ :: _ :: _ :: r,g,i,j,o =>
  simp at g i j o;exact⟨r,by rw[g,i,j,o]⟩
def resK(n:Nd)(g:List Nd)(z:Int):Except ISt ((ByteArray×List Nd×Int)×ISt)->XO
 | .error s=>(s,nd0,0)
 | .ok ((t,ks,m),s)=>(s,.mk n.op t n.n (g++ks) n.pos,z+m)
structure AtK (ts:TS) (l:List ByteArray) (es:List (ByteArray×Bool)) (n:Nd) (body:Bool) (s:ISt) (k:Nat) (sc2:List Sb) (env2:IEnv) (nm2:ByteArray) (s3:ISt) (acc:List Nd) (av:AV) (z:Int) (st:St):Prop where
 e3:st.tm 3=aB body
 e4:st.tm 4 = .ptr 0 0
 e6:st.tm 6 = .ip (cNd n)
 e8:st.tm 8 = .ptr 1 0
 e9:st.tm 9 = .ptr 2 0
 e11:st.tm 11 = .ptr 3 0
 e12:st.tm 12=aI z
 e13:st.tm 13=aI k
 m0:st.mu[0]?=some (.arr (cWk ts l s3))
 m1:st.mu[1]?=some (.arr zWk)
 m2:st.mu[2]?=some (.arr [aI 0,aS ⟨#[]⟩,aI 0,.lst true [],aI 0])
 m3:st.mu[3]?=some (.arr [aI n.op,aS nm2,aI n.n,av,aI n.pos])
 ho:OwnF 4 st.mu 5 av (acc.map cNd)
 so:ScOf ts body sc2 env2
 en:qZ env2
 al:acc.length=k
 l0:0<=s3.last
 c0:s.cost+1<=s3.cost
 c1:s3.cost<=4000
 z1:0<=z
 z2:z<=1+4000*(k:Int)
theorem AtK.same{ts:TS}{n:Nd}{body:Bool}{s:ISt}{k:Nat}{j:List Sb}{i:IEnv}{o:ByteArray}{I:ISt}{p:List Nd}{z:Int}{st g:St}(A:AtK ts l es n body s k j i o I p av z st)
  (J:g.tm 3=aB body) (P:g.tm 4 = .ptr 0 0) (R:g.tm 6 = .ip (cNd n)) (T:g.tm 8 = .ptr 1 0) (U:g.tm 9 = .ptr 2 0) (r:g.tm 11 = .ptr 3 0) (t:g.tm 12=aI z) (C:g.tm 13=aI k) (em:g.mu=st.mu):AtK ts l es n body s k j i o I p av z g:=
 ⟨J,P,R,T,U,r,t,C,by rw[em];exact A.m0,by rw[em];exact A.m1,by rw[em];exact A.m2,by rw[em];exact A.m3,by rw[em];exact A.ho,A.so,A.en,A.al,A.l0,A.c0,A.c1,A.z1,A.z2⟩
theorem mB{g lo sz:Nat}{mu l:Mu}{xs:List (List AV)}(h:OwnF g mu sz av xs)(i:∀ b s o q,av = .sl b s o q->b<lo)(r:g<=l.length)(t:∀ j,g<=j->j<lo->l[j]?=mu[j]?):OwnF g l sz av xs:=by
 obtain⟨C,p,_⟩:=h;refine⟨?_,p,r⟩;rcases C with rfl|⟨b,rfl,I⟩
 .exact .inl rfl
 .exact .inr ⟨b,rfl,by rw[t b (p b _ _ _ rfl) (i b _ _ _ rfl)];exact I⟩
theorem AtK.keep{ts:TS}{n:Nd}{body:Bool}{s:ISt}{k:Nat}{p:List Sb}{i:IEnv}{r:ByteArray}{T:ISt}{t:List Nd}{z:Int}{st g:St}(A:AtK ts l es n body s k p i r T t av z st)
  (U:g.tm 3=aB body) (e4:g.tm 4 = .ptr 0 0) (e6:g.tm 6 = .ip (cNd n)) (e8:g.tm 8 = .ptr 1 0) (e9:g.tm 9 = .ptr 2 0) (I:g.tm 11 = .ptr 3 0) (J:g.tm 12=aI z) (P:g.tm 13=aI k) (lo:Nat) (h4:4<=lo) (R:∀ b s o q,av = .sl b s o q->b<lo) (hl:4<=g.mu.length) (C:∀ j,j<lo->g.mu[j]?=st.mu[j]?):AtK ts l es n body s k p i r T t av z g:=
 ⟨U,e4,e6,e8,e9,I,J,P,by rw[C 0 (by omega)];exact A.m0,by rw[C 1 (by omega)];exact A.m1,by rw[C 2 (by omega)];exact A.m2,by rw[C 3 (by omega)];exact A.m3,mB A.ho R hl (fun j _=>C j),A.so,A.en,A.al,A.l0,A.c0,A.c1,A.z1,A.z2⟩
theorem qkH{mu:Mu}{lo:Nat}{s x:AV}{xs ys:List Sb}{K:AV->Mu->Prop}(g:OwnF lo mu 9 s (xs.map cSb))(j:qM mu x=some (ys.map cSb))(t:xs.length+ys.length<=100000)(o:∀ av l,OwnF lo l 9 av ((xs++ys).map cSb)->(∀ i,i<lo->l[i]?=mu[i]?)->K av l) :
  qD qc mu #[269,269] s x K:=by
 refine qD.ownF (lo:=lo) (e:=279) (sz:=9) (bt:=112) (zv := .agg [aS ⟨#[]⟩,aS ⟨#[]⟩,aB false,aI 0,aS ⟨#[]⟩,aI 0,.lst true [],aI 0,aI 0]) (xs:=xs.map cSb) (ys:=ys.map cSb) (by simp[go_sem]) (by simp[go_sem]) (by simp[go_sem]) rfl rfl (by omega) (by omega) g j (Zs xs) (Zs ys) (by simp;omega) ?_;intro av l h r;exact o av l (by rw[zg];exact h) r
theorem expK(ts:TS)(h:okTS ts)(l:List ByteArray)(es:List (ByteArray×Bool))(t:Tn l es)(hl:l.length<=400000)(hF:qu ts es<=200000)(b4:Free ts es)(hb:∀ p,p∈ts.preds->WfN p.body/\jt ts p.body)(f:Nat)(ih:∀ env sc n body s,Pre ts es f env sc n body s->ExpW ts l es f sc n body s)
  (env:IEnv) (sc:List Sb) (n:Nd) (body:Bool) (s:ISt) (p:Pre ts es (f+1) env sc n body s) (hc:s.cost+1<=4000) (h1:¬n.op=1) (h47:¬n.op=47):ExpW ts l es (f+1) sc n body s:=by
 have dh:=p.st.c0;have di:=p.st.c1;have dj:=p.wf.len;obtain⟨E',hE⟩:∃ E':List Sb->Nd->ISt->XO,E'=fun sc k s=>expR ts es f sc k body s:=⟨_,rfl⟩
 obtain⟨R',bg⟩:∃ R':List Sb->ByteArray->ISt->(List Sb×ByteArray)×ISt,R'=fun sc nm s=>renR ts es sc nm body s:=⟨_,rfl⟩
 have bh:∀ k,k∈n.kids->∀ T I sk,StOk (qu ts es) sk->s.cost+1<=sk.cost->qZ T->ScOf ts body I T->(I.length:Int)<=sk.cost+8->qe qc 136 [eWk ts l sk,lSb I,eNd k,aB body] (eXO ts l (E' I k sk)):=fun k hk T I sk b5 ch b6 bi bj=>by
  rw[hE];exact ih T I k body sk ⟨by have:=p.fu;omega,b5,b6,p.wf.kid hk,p.cl.kid hk,bi,bj⟩
 have bk:∀ k,k∈n.kids->∀ T I sk,StOk (qu ts es) sk->s.cost+1<=sk.cost->qZ T->ScOf ts body I T->4000<(E' I k sk).1.cost\/(¬ 4000<(E' I k sk).1.cost/\Gos (qu ts es) sk (E' I k sk).1 (E' I k sk).2.2):=fun k hk T I sk b5 ch b6 bi=>by
  have ho:=Zr ts es b4 hb f T I k body sk (by have:=p.fu;omega) b5 b6 (p.wf.kid hk) (p.cl.kid hk) bi;have cj:E' I k sk=expR ts es f I k body sk:=by rw[hE]
  rw[cj];cases hx:expI ts es f T k body sk with
  |error d=>rw[hx]at ho;exact .inl ho.1
  |ok r =>
   obtain⟨⟨m,y⟩,t⟩:=r;rw[hx]at ho;obtain⟨e1,e2,e3⟩:=ho;have g:=j9 ts b4 f b5 b6 hx;rw[e2,e3];exact .inr ⟨by have:=g.c1;omega,g⟩
 obtain⟨ax,b9⟩:∃ ax,ax=resK n [] 1 (vb E' R' (binB n.op) 0 sc n.name n.kids (payS 1 s)):=⟨_,rfl⟩;have bb:expR ts es (f+1) sc n body s=ax:=by
  simp only[expR];rw[if_pos hc,if_neg h1,if_neg h47,b9,hE,bg];cases vb (fun sc k s=>expR ts es f sc k body s) (fun sc nm s=>renR ts es sc nm body s) (binB n.op) 0 sc n.name n.kids (payS 1 s) with
  |error e=>rfl
  |ok r=>rfl
 unfold ExpW;rw[bb];clear hE bb ih;have bc:StOk (qu ts es) (payS 1 s):=(Qa p.st (by omega) hc).ok p.st;have w1:qi.wrap (s.cost+1)=s.cost+1:=qg (by omega) (by omega);have bj:¬ 4000<s.cost+1:=by omega
 have ck:=yw n;refine qSQ call136 func136 rfl { mt:=[4] } ?_;simp[go_sem,w1,bj,h1,h47,ck];refine qk.upK n.kids.length (fun k st=>∃(full:Bool) (I:List Sb) (T:IEnv) (a9:ByteArray) (s2:ISt) (ad:List Nd) (P:AV) (z:Int),st.tm 1 = .lst full (I.map cSb)/\AtK ts l es n body s k I T a9 s2 ad P z st/\(I.length:Int)+(if k<=1 then 1 else 0)<=s2.cost+8/\dueN (qu ts es) (binB n.op) k<=pot (qu ts es) s2/\(k<=1->a9=n.name)/\resK n ad z (vb E' R' (binB n.op) k I a9 (n.kids.drop k) s2)=ax) ?_ ?_
 .refine ⟨false,sc,env,n.name,payS 1 s,[],.lst true [],1,by simp[go_sem],⟨by simp[go_sem],by simp[go_sem],by simp[go_sem,yw n],by simp[go_sem],by simp[go_sem],by simp[go_sem],by simp[go_sem],by simp[go_sem],by simp[go_sem];exact⟨rfl,rfl⟩,by simp[go_sem],by simp[go_sem],by simp[go_sem],by simp[go_sem];exact OwnF.nil (by simp),p.so,p.en,rfl,bc.l0,by show _<=s.cost+1;omega,bc.c1,by omega,by omega⟩,by show _<=s.cost+1+8;have:=p.le;simp;omega,?_,fun _=>rfl,b9.symm⟩
  rw[Zi];have:=p.st.p;unfold dueN;split<;>omega
 .rintro k st hk ⟨full,I,T,a9,s2,ad,P,z,J,A,af,an,b7,hI⟩
  obtain⟨rr,U⟩:=four A.m0 A.m1 A.m2 A.m3;have e3:=A.e3;have e4:=A.e4;have e6:=A.e6;have e8:=A.e8;have e9:=A.e9;have a0:=A.e11;have a5:=A.e12;have a6:=A.e13;have ai:=A.ho.one;have aj:=A.ho.cells;by_cases a7:k<n.kids.length
  .have w2:qi.wrap ((k:Int)+1)=(k:Int)+1:=qg (by omega) (by omega)
   rw[zG a7]at hI;simp only[vb]at hI;refine awp.cut (fun st=>∃(full:Bool) (lo:Nat) (sl:AV) (ab:List Sb) (ag:IEnv) (ar:ByteArray) (s3:ISt) (P:AV),(if binB n.op=true/\k=1 then R' I a9 s2 else ((I,a9),s2))=((ab,ar),s3)/\st.tm 1=sl/\(sl = .lst full (ab.map cSb)\/(OwnF lo st.mu 9 sl (ab.map cSb)/\(∀ b s o q,P = .sl b s o q->b<lo)/\4<=lo))/\AtK ts l es n body s k ab ag ar s3 ad P z st/\(ab.length:Int)+(if k+1<=1 then 1 else 0)<=s3.cost+8/\dueN (qu ts es) (binB n.op) (k+1)<=pot (qu ts es) s3/\(k+1<=1->ar=n.name)) ?_ ?_
   .clear bh bk
    by_cases aq:k=1
    .subst aq
     have be:=b7 (qs _);have de:st.mu.length=rr.length+4:=by rw[U];rfl
     have az:∀ b s o q,P = .sl b s o q->b<rr.length+4:=fun b s o q e=>by
      rcases A.ho.1 with h|⟨c,h,hc⟩
      .rw [h]at e;cases e
      .rw [h]at e;cases e;have:=(qj.1 hc).1;omega
     have aa:(1:Int)<n.kids.length:=by omega
     have cm:=A.c0;have b8:=A.l0;have cp:=A.c1;by_cases ak:binB n.op=true
     .have a8:n.op=15\/n.op=45\/n.op=46:=by simpa[binB,or_assoc] using ak
      have dk:=h.ns;have dm:=h.nf;have dn:qu ts es<=l.length+40:=by have:=t.len;unfold qu;omega
      have cq:okNm ts:=⟨h.sl,by omega,by omega,fun f hf=>by have:=h.fl f hf;omega⟩;have cn:=Xf ts cq n.name;have aw:=Xe ts n.name;have cr:(named ts n.name).2=(means ts n.name).length:=by rw[Xr h]
      rw[cr]at cn;generalize (named ts n.name).1=C at *
      have bt:StOk (qu ts es) s2:=⟨b8,by omega,cp,by have:=Vn (qu ts es) (binB n.op) 1;omega⟩;have cs:=bt.last;have cf:=qkC ts h l es t hl s2 ⟨b8,by omega⟩ (b4 s2.last b8);by_cases ae:body=true\/means ts n.name≠[]
      .have hq:(if binB n.op=true/\1=1 then R' I a9 s2 else ((I,a9),s2))=((I++[(n.name,⟨none,0,vN (zy ts es (qu ts es) s2.last)⟩)],vN (zy ts es (qu ts es) s2.last)),⟨zy ts es (qu ts es) s2.last,s2.cost⟩):=by
        rw[if_pos ⟨ak,rfl⟩,bg,be];show renR ts es I n.name body s2=_;unfold renR;rw[if_pos ae]
       have ct:body=true\/(body=false/\0<(means ts n.name).length):=by
        cases body with
        |true=>exact .inl rfl
        |false=>exact .inr ⟨rfl,VR.2 (ae.resolve_left (by simp))⟩
       clear hI;have bu:renR ts es I n.name body s2=((I++[(n.name,⟨none,0,vN (zy ts es (qu ts es) s2.last)⟩)],vN (zy ts es (qu ts es) s2.last)),⟨zy ts es (qu ts es) s2.last,s2.cost⟩):=by
        unfold renR;rw[if_pos ae]
       obtain⟨a1,a2,a3⟩:=mw (es:=es) (nm:=n.name) (s:=s2) A.en A.so;have a4:=Vl (ts:=ts) (es:=es) (nm:=n.name) (body:=body) (s:=s2) A.en;obtain⟨b1,b2,b3⟩:=Vm (body:=body) (nm:=n.name) (env:=T) b4 b8;rw[bu]at a1 a3;rw[<-a3]at b1 b2;simp only at b1 b2 a1;have bl:dueN (qu ts es) (binB n.op) 1=(qu ts es:Int):=by unfold dueN;rw[if_pos ⟨ak,by omega⟩]
       have bm:dueN (qu ts es) (binB n.op) 2=0:=by unfold dueN;rw[if_neg (by omega)]
       rw[bl]at an;unfold pot at an;generalize (renI ts es T n.name body s2).1.1=ag at *
       clear a2 a3 b3;generalize dp:zy ts es (qu ts es) s2.last=R at *
       rcases a8 with a8|a8|a8<;>rcases ct with au|⟨au,cu⟩
       all_goals
        simp[go_sem,e3,e4,e6,e8,e9,a0,a5,a6,J,U,a7,aa,a8,qR];refine qd.pure cn (.cons (.hf (zq ts)) (.cons (.hf (HF.sc _)) .nil)) ?_;simp[go_sem,e3,e4,e6,e8,e9,a0,a5,a6,J,U,a7,aa,a8,qR,aw.len];rw[if_pos aw.one];generalize putCells _ 0 C=PC
        first
        |simp[go_sem,e3,e4,e6,e8,e9,a0,a5,a6,J,U,a7,aa,a8,qR,au,cu]
        |simp[go_sem,e3,e4,e6,e8,e9,a0,a5,a6,J,U,a7,aa,a8,qR,au]
        refine qd.pure cf (.cons (.hf (uo ts l s2)) .nil) ?_;simp[go_sem,e3,e4,e6,e8,e9,a0,a5,a6,J,U,a7,aa,a8,qR,au];refine qm.move 2 2 (by kernel_rfl) (by kernel_rfl) ?_ ?_
        all_goals
         simp[go_sem,e3,e4,e6,e8,e9,a0,a5,a6,J,U,a7,aa,a8,qR,au];refine qkH (lo:=rr.length+6) (xs:=[]) (ys:=I) (OwnF.nil (by simp)) (by simp[qM]) (by simp at af⊢;omega) ?_;intro dq dr cv aq;simp[go_sem,e3,e4,e6,e8,e9,a0,a5,a6,J,U,a7,aa,a8,qR,au];refine mA (y:=(n.name,⟨none,0,vN R⟩)) cv (by simp at af⊢;omega) ?_;intro cw ds ay ah;have n0:=(ah 0 (by omega)).trans (aq 0 (by omega));have n1:=(ah 1 (by omega)).trans (aq 1 (by omega));have n2:=(ah 2 (by omega)).trans (aq 2 (by omega));have n3:=(ah 3 (by omega)).trans (aq 3 (by omega));simp at n0 n1 n2 n3;simp[go_sem,e3,e4,e6,e8,e9,a0,a5,a6,J,a7,aa,a8,qR,au];refine Keep.mk' ⟨false,rr.length+6,cw,I++[(n.name,⟨none,0,vN R⟩)],ag,vN R,⟨R,s2.cost⟩,P,hq,by simp[go_sem],.inr ⟨by simpa[go_sem] using ay,?_,by omega⟩,⟨by simp[go_sem,e3,au],by simp[go_sem,e4],by simp[go_sem,e6],by simp[go_sem,e8],by simp[go_sem,e9],by simp[go_sem,a0],by simp[go_sem,a5],by simp[go_sem,a6],by simp[go_sem,n0],by simp[go_sem,n1],by simp[go_sem,n2],by simp[go_sem,n3,a8],?_,a1,a4,A.al,b1,A.c0,A.c1,A.z1,A.z2⟩,?_,?_,fun h=>by omega⟩
         .intro b s o q e;have:=az b s o q e;omega
         .simp only[zl]
          refine mB A.ho az (by have:=ay.2.2;omega) fun j h4 hj=>?_
          obtain⟨i,rfl⟩:∃ i,j=i+4:=⟨j-4,by omega⟩;rw[ah _ (by omega),aq _ (by omega),U];simp only[ve];rw[qx (by omega)]
         .simp at af⊢;omega
         .rw [bm];unfold pot;simp only;omega
      .have bv:body=false:=by cases body with
        |true=>exact absurd (.inl rfl) ae
        |false=>rfl
       have cx:means ts n.name=[]:=Classical.byContradiction fun x=>ae (.inr x)
       have hq:(if binB n.op=true/\1=1 then R' I a9 s2 else ((I,a9),s2))=((I,a9),s2):=by
        rw[if_pos ⟨ak,rfl⟩,bg,be];show renR ts es I n.name body s2=_;unfold renR;rw[if_neg ae]
       rcases a8 with a8|a8|a8
       all_goals
        simp[go_sem,e3,e4,e6,e8,e9,a0,a5,a6,J,U,a7,aa,a8,qR];refine qd.pure cn (.cons (.hf (zq ts)) (.cons (.hf (HF.sc _)) .nil)) ?_;simp[go_sem,e3,e4,e6,e8,e9,a0,a5,a6,J,U,a7,aa,a8,qR,aw.len];rw[if_pos aw.one];generalize putCells _ 0 C=PC;simp[go_sem,e3,e4,e6,e8,e9,a0,a5,a6,J,U,a7,aa,a8,qR,bv,cx];refine Keep.mk' ⟨full,rr.length+5,.lst full (I.map cSb),I,T,a9,s2,P,hq,by simp[go_sem,J],.inl rfl,A.keep (by simp[go_sem,e3,bv]) (by simp[go_sem,e4]) (by simp[go_sem,e6]) (by simp[go_sem,e8]) (by simp[go_sem,e9]) (by simp[go_sem,a0]) (by simp[go_sem,a5]) (by simp[go_sem,a6]) (rr.length+4) (by omega) ?_ (by simp[go_sem]) (fun j hj=>?_),?_,?_,fun h=>by omega⟩
        .exact az
        .simp only[zl]
         rw[U]
         match j,hj with
         | 0,_=>rfl
         | 1,_=>rfl
         | 2,_=>rfl
         | 3,_=>simp[a8]
         |i+4,hj =>
          simp only[ve];rw[qx (by omega)]
        .simp at af⊢;omega
        .have bl:dueN (qu ts es) (binB n.op) 1=(qu ts es:Int):=by unfold dueN;rw[if_pos ⟨ak,by omega⟩]
         have bm:dueN (qu ts es) (binB n.op) 2=0:=by unfold dueN;rw[if_neg (by omega)]
         rw[bl]at an;rw[bm];omega
     .have bw:¬n.op=15:=fun e=>ak (by simp[binB,e])
      have ca:¬n.op=45:=fun e=>ak (by simp[binB,e])
      have cb:¬n.op=46:=fun e=>ak (by simp[binB,e])
      simp[go_sem,e3,e4,e6,e8,e9,a0,a5,a6,J,U,a7,aa,bw,ca,cb,qR];refine Keep.mk' ⟨full,4,.lst full (I.map cSb),I,T,a9,s2,P,by rw[if_neg (fun x=>ak x.1)],by simp[go_sem,J],.inl rfl,A.same (by simp[go_sem,e3]) (by simp[go_sem,e4]) (by simp[go_sem,e6]) (by simp[go_sem,e8]) (by simp[go_sem,e9]) (by simp[go_sem,a0]) (by simp[go_sem,a5]) (by simp[go_sem,a6]) (by simp[go_sem,U]),?_,?_,fun h=>by omega⟩
      .simp at af⊢;omega
      .rw [<-gx (fun x=>ak x.1)];exact an
    .have cc:¬(k:Int)=1:=by omega
     simp[go_sem,e3,e4,e6,e8,e9,a0,a5,a6,J,U,a7,cc,qR];refine Keep.mk' ⟨full,4,.lst full (I.map cSb),I,T,a9,s2,P,by rw[if_neg (fun x=>aq x.2)],by simp[go_sem,J],.inl rfl,A.same (by simp[go_sem,e3]) (by simp[go_sem,e4]) (by simp[go_sem,e6]) (by simp[go_sem,e8]) (by simp[go_sem,e9]) (by simp[go_sem,a0]) (by simp[go_sem,a5]) (by simp[go_sem,a6]) (by simp[go_sem,U]),?_,?_,fun h=>b7 (by omega)⟩
     .split at af<;>split<;>omega
     .rw [<-gx (fun x=>aq x.2)];exact an
   .rintro st ⟨full,lo,sl,ab,ag,ar,s3,P,hq,J,bn,A,af,an,b7⟩
    rw[hq]at hI;simp only at hI;have b0:StOk (qu ts es) s3:=⟨A.l0,by have:=A.c0;omega,A.c1,by have:=Vn (qu ts es) (binB n.op) (k+1);omega⟩;have bo:(ab.length:Int)<=s3.cost+8:=by split at af<;>omega
    have x1:=bh n.kids[k] (qy a7) ag ab s3 b0 A.c0 A.en A.so bo;have x2:=bk n.kids[k] (qy a7) ag ab s3 b0 A.c0 A.en A.so;generalize E' ab n.kids[k] s3=q at *
    clear bh bk;rw[qcS,qcT];refine qm.fz (qkG (fun st=>∃ full,st.tm 1 = .lst full (ab.map cSb)/\AtK ts l es n body s k ab ag ar s3 ad P z st) ?_ ?_)
    .rcases bn with bn|⟨cy,az,h4⟩
     .exact FzQ.skip ⟨full,by rw[J,bn],A⟩
     .refine FzQ.own (d:=1) J cy (Zs ab) (fun r hr c hc=>by obtain⟨x,_,rfl⟩:=qp.1 hr;exact VO x c hc) ?_
      intro da bq dt ah;refine⟨bq,by simp[go_sem],A.keep (by simp[go_sem,A.e3]) (by simp[go_sem,A.e4]) (by simp[go_sem,A.e6]) (by simp[go_sem,A.e8]) (by simp[go_sem,A.e9]) (by simp[go_sem,A.e11]) (by simp[go_sem,A.e12]) (by simp[go_sem,A.e13]) lo h4 az ?_ ?_⟩
      .have:=A.ho.2.2;simp only[zl];omega
      .intro j hj;simp only[zl];exact ah j hj
    rintro st ⟨full,J,A⟩;obtain⟨rr,U⟩:=four A.m0 A.m1 A.m2 A.m3;have e3:=A.e3;have e4:=A.e4;have e6:=A.e6;have e8:=A.e8;have e9:=A.e9;have a0:=A.e11;have a5:=A.e12;have a6:=A.e13;have ai:=A.ho.one;have aj:=A.ho.cells;refine qm.seg [0,1,2,3,4,5,6,7,8,9,10,11,12,17,13,14,15,16] [(0,0,[]),(1,0,[]),(2,0,[]),(3,0,[]),(4,0,[]),(5,0,[]),(6,0,[]),(7,0,[]),(8,1,[]),(9,0,[]),(10,0,[]),(11,0,[]),(12,0,[]),(17,0,[]),(13,2,[0,3,6]),(14,2,[0,3,6]),(15,1,[]),(16,1,[])] (by kernel_rfl) (by kernel_rfl) (by simp[go_sem]) ?_;simp[go_sem,e3,e4,e6,e8,e9,a0,a5,a6,J,U,a7,qR,ai,aj];refine qd.pure x1 (.cons (.hf (uo ts l s3)) (.cons (WK.lst fun r hr c hc=>by
     obtain⟨x,_,rfl⟩:=qp.1 hr;exact VO x c hc) (.cons (.hf (ze _)) (.cons (.hf (HF.sc _)) .nil)))) ?_
    simp[go_sem,e3,e4,e6,e8,e9,a0,a5,a6,J,U,a7,qR,ai,aj];by_cases ao:4000<q.1.cost
    .rw [if_pos ao]at hI
     have hI:ax=(q.1,nd0,0):=hI.symm;simp[go_sem,e3,e4,e6,e8,e9,a0,a5,a6,J,U,a7,qR,ai,aj,ao];rw[hI];exact rdZ ts l q.1
    .rcases x2 with x2|⟨_,g⟩
     .exact absurd x2 ao
     rw[if_neg ao]at hI;simp[go_sem,e3,e4,e6,e8,e9,a0,a5,a6,J,U,a7,qR,ai,aj,ao];obtain⟨g1,g2,g3⟩:=VN g b0;have gz:=g.z0;have du:=g.cz;have db:=g.c1;have gp:=g.p;have dv:=A.z1;have dw:=A.z2;have cm:=A.c0;have dc:=A.al;have df:=A.ho.2.2;refine YD.appNd (lo:=4) (xs:=ad) ?_ (by omega) ?_
     .have h1:OwnF 4 (st.mu++[Cell.arr (cWk ts l q.1),Cell.arr (cNd q.2.1)]) 5 P (ad.map cNd):=YD.gA A.ho (by simp;omega) fun i _ hi=>qx hi
      rw[U]at h1;have h2:=OwnF.set (i:=0) (c:=Cell.arr (cWk ts l q.1)) h1 (by omega);simpa using h2
     intro cd da ay ah;have n0:=ah 0 (by omega);have n1:=ah 1 (by omega);have n2:=ah 2 (by omega);have n3:=ah 3 (by omega);simp at n0 n1 n2 n3;obtain⟨r2,cg⟩:=four n0 n1 n2 n3;have br:=ay.one;have bs:=ay.cells;have w3:qi.wrap (z+q.2.2)=z+q.2.2:=qg (by omega) (by omega);simp[go_sem,e3,e4,e6,e8,e9,a0,a5,a6,J,cg,a7,qR,br,bs,ao,w2,w3];refine Keep.mk' ⟨full,ab,ag,ar,q.1,ad++[q.2.1],cd,z+q.2.2,by simp[go_sem,J],⟨by simp[go_sem,e3],by simp[go_sem,e4],by simp[go_sem,e6],by simp[go_sem,e8],by simp[go_sem,e9],by simp[go_sem,a0],by simp[go_sem],by simp[go_sem],by simp[go_sem],by simp[go_sem],by simp[go_sem],by simp[go_sem],?_,A.so,A.en,by simp[dc],g1.l0,by omega,db,by omega,by omega⟩,by omega,by omega,b7,?_⟩
     .have h2:=OwnF.set (i:=3) (c:=Cell.arr [aI n.op,aS ar,aI n.n,cd,aI n.pos]) ay (by omega)
      rw[cg]at h2;simpa[go_sem] using h2
     .rw [<-hI]
      generalize vb E' R' (binB n.op) (k+1) ab ar (List.drop (k+1) n.kids) q.1=X;cases X with
      |error e=>rfl
      |ok r =>
       obtain⟨⟨a,b,c⟩,d⟩:=r;simp[resK];omega
  .simp [go_sem,e3,e4,e6,e8,e9,a0,a5,a6,J,U,a7,qR,ai,aj]
   refine qm.seg [0,1,2,5,3,4] [(0,0,[]),(1,0,[]),(2,0,[]),(5,0,[]),(3,1,[1]),(4,1,[])] (by kernel_rfl) (by kernel_rfl) (by simp[go_sem]) ?_;simp[go_sem,e3,e4,e6,e8,e9,a0,a5,a6,J,U,a7,qR,ai,aj];rw[YP (by omega)]at hI;have hI:ax=(s2,.mk n.op a9 n.n ad n.pos,z):=by rw[<-hI];simp[vb,resK]
   rw[hI];refine .tup _ _ rfl fun k x y hx hy=>?_
   match k,hx,hy with
   | 0,hx,hy=>cases hx;cases hy;exact .hf _ (uo ts l s2)
   | 1,hx,hy =>
    cases hx;cases hy;have dd:eNd (.mk n.op a9 n.n ad n.pos) = .agg [aI n.op,aS a9,aI n.n,.lst false (ad.map cNd),aI n.pos]:=by
     show AV.agg (cNd _)=_;rw[yw];rfl
    show Rd _ _ (eNd (.mk n.op a9 n.n ad n.pos));rw[dd];refine .agg _ _ rfl fun k x y hx hy=>?_
    match k,hx,hy with
    | 0,hx,hy=>cases hx;cases hy;exact .hf _ (HF.sc _)
    | 1,hx,hy=>cases hx;cases hy;exact .hf _ (HF.sc _)
    | 2,hx,hy=>cases hx;cases hy;exact .hf _ (HF.sc _)
    | 3,hx,hy =>
     cases hx;cases hy;have h1:=OwnF.set (i:=1) (c:=Cell.arr (cWk ts l s2)) A.ho (by omega);have h2:=OwnF.set (i:=2) (c:=Cell.arr [aI n.op,aS a9,aI n.n,P,aI n.pos]) h1 (by omega);rw[U]at h2;exact h2.1.rd (YD.WR ad).ok fun r hr c hc=>by
      obtain⟨x,_,rfl⟩:=qp.1 hr;exact wW x c hc
    | 4,hx,hy=>cases hx;cases hy;exact .hf _ (HF.sc _)
    |k+5,hx,hy=>cases hx
   | 2,hx,hy=>cases hx;cases hy;exact .hf _ (HF.sc _)
   |k+3,hx,hy=>cases hx
end
end RA
namespace RB
open YF Y9 Y1 YX YZ YB YC YE YG YH P1 P2 Q4 Q6 PF QE QT QW QX QY QZ RA
theorem mC(l:List Nd):∀(es:List (ByteArray×Bool)) (nm:ByteArray),getK nm (putN es l)=some true↔(getK nm es=some true\/∃ x,x∈l/\x.name=nm):=by
 induction l with
 |nil=>intro es nm;exact⟨fun h => .inl h,fun h=>h.elim id fun⟨x,g,_⟩=>absurd g qI⟩
 |cons a l j =>
  intro es nm;have e:putN es (a :: l)=putN (setK a.name true es) l:=rfl;rw[e,j,uc];by_cases e:nm=a.name
  .rw [if_pos e]
   exact⟨fun _ => .inr ⟨a,qU ..,e.symm⟩,fun _ => .inl rfl⟩
  .rw [if_neg e]
   constructor
   .rintro (h|⟨x,g,i⟩)
    .exact .inl h
    .exact .inr ⟨x,qO _ g,i⟩
   .rintro (h|⟨x,g,i⟩)
    .exact .inl h
    .rcases qw.1 g with rfl|g
     .exact absurd i.symm e
     .exact .inr ⟨x,g,i⟩
theorem qkI(l:List Pd):∀(es:List (ByteArray×Bool)) (nm:ByteArray),getK nm (l.foldl (fun es p=>putN es (preN p.body)) es)=some true↔(getK nm es=some true\/∃ p,p∈l/\∃ x,x∈preN p.body/\x.name=nm):=by
 induction l with
 |nil=>intro es nm;exact⟨fun h => .inl h,fun h=>h.elim id fun⟨x,i,_⟩=>absurd i qI⟩
 |cons a l j =>
  intro es nm;rw[List.foldl_cons,j,mC];constructor
  .rintro ((h|h)|⟨p,g,h⟩)
   .exact .inl h
   .exact .inr ⟨a,qU ..,h⟩
   .exact .inr ⟨p,qO _ g,h⟩
  .rintro (h|⟨p,g,h⟩)
   .exact .inl (.inl h)
   .rcases qw.1 g with rfl|g
    .exact .inl (.inr h)
    .exact .inr ⟨p,g,h⟩
structure Ti (es:List (ByteArray×Bool)):Prop where
 nd:(es.map Prod.fst).Nodup
 tr:∀ e,e∈es->e.2=true
theorem Ti.put(l:List Nd):∀{es:List (ByteArray×Bool)},Ti es->Ti (putN es l):=by
 induction l with
 |nil=>intro es h;exact h
 |cons a l i =>
  intro es h;refine i (es:=setK a.name true es) ⟨UW h.nd,fun e g=>?_⟩;rcases Vp g with rfl|g
  .rfl
  .exact h.tr e g
theorem Ti.puts(l:List Pd):∀{es:List (ByteArray×Bool)},Ti es->Ti (l.foldl (fun es p=>putN es (preN p.body)) es):=by
 induction l with
 |nil=>intro es h;exact h
 |cons a l g=>intro es h;exact g (h.put _)
theorem XC{nm:ByteArray}(n:Nd)(i:nm≠⟨#[]⟩):nm∈namL n↔∃ x,x∈preN n/\x.name=nm:=by
 unfold namL;rw[qp];constructor
 .rintro ⟨x,g,e⟩
  exact⟨x,(y9.1 g).1,e⟩
 .rintro ⟨x,g,e⟩
  exact⟨x,y9.2 ⟨g,by rw[e];simpa using i⟩,e⟩
theorem takTn(ts:TS)(n:Nd):Tn (takL ts n) (yS ts n):=by
 have l:∀ t:ByteArray,t≠⟨#[]⟩->(t∈takL ts n↔getK t (yS ts n)=some true):=fun t g=>by
  unfold takL yS;rw[qkI,mC,qG,XC n g,List.mem_flatMap];constructor
  .rintro (h|⟨p,i,h⟩)
   .exact .inl (.inr h)
   .exact .inr ⟨p,i,(XC _ g).1 h⟩
  .rintro ((h|h)|⟨p,i,h⟩)
   .cases h
   .exact .inl h
   .exact .inr ⟨p,i,(XC _ g).2 h⟩
 refine⟨l,?_⟩;have j:Ti (yS ts n):=Ti.puts _ (Ti.put _ ⟨.nil,fun e C=>absurd C qI⟩);have:=List.Nodup.length_le_of_subset (l₂:=⟨#[]⟩ :: takL ts n) j.nd fun x I=>by
  by_cases e:x=⟨#[]⟩
  .rw [e];exact qU ..
  .refine qO _ ((l x e).2 ?_)
   obtain⟨q,r,rfl⟩:=qp.1 I;have J:=j.tr q r;have P:=(Z5 j.nd (k:=q.1) (v:=q.2)).2 r;rw[P,J]
 simpa using this
theorem mD(ts:TS)(h:okTS ts)(l:List ByteArray)(es:List (ByteArray×Bool))(t:Tn l es)(r:l.length<=400000)(C:qu ts es<=200000)(g:Free ts es)(o:∀ p,p∈ts.preds->WfN p.body/\jt ts p.body):∀(f:Nat) (env:IEnv) (sc:List Sb) (n:Nd) (body:Bool) (s:ISt),Pre ts es f env sc n body s->ExpW ts l es f sc n body s
 | 0,env,sc,n,body,s,p=>by have:=p.fu;have:=p.st.c1;omega
 |f+1,env,sc,n,body,s,p=>by
  have I:=mD ts h l es t r C g o f;by_cases i:s.cost+1<=4000
  case neg=>exact expZ ts l es f env sc n body s p i
  by_cases J:n.op=1
  .exact expN ts l es f env sc n body s p i J
  by_cases h47:n.op=47
  .obtain ⟨P,R,j⟩:=p.cl n (vA n) h47
   have T:(payS 1 s).cost=s.cost+1:=rfl;exact expC ts l es f env sc n body s p i h47 P R (replW ts h l es g o f I env sc n body (payS 1 s) ⟨by have:=p.fu;omega,(Qa p.st (by omega) i).ok p.st,p.en,p.wf,p.cl,p.so,by have:=p.le;omega⟩ h47 P R j)
  .exact expK ts h l es t r C g o f I env sc n body s p i J h47
theorem inlRU(ts:TS)(h:okTS ts)(hv:∀ p,p∈ts.preds->zb p.body=true)(hb:∀ p,p∈ts.preds->WfN p.body/\jt ts p.body)(n:Nd)(hn:zb n=true)(a9:(yg ts [] n).1=0->jt ts n):qe qc 66 [eTS ts,eNd n] (.tup [eNd (yB ts n).1,aI (yB ts n).2]):=by
 have hw:=ug hn;have a0:=ul.1 hn;have J:∀ p,p∈ts.preds->WfN p.body:=fun p hp=>(hb p hp).1
 have a4:∀ p,p∈ts.preds->(preN p.body).length<=400:=fun p hp=>by have:=(ul.1 (hv p hp)).2.2.1;have:=Yt p.body;omega
 have aa:(preN n).length<=400:=by have:=a0.2.2.1;have:=Yt n;omega
 have hF:=nD h hv hn;have hT:=takTn ts n;have ag:=h.np;have ab:(takL ts n).length<=400000:=by
  have h1:∀ L:List Pd,(∀ p,p∈L->(preN p.body).length<=400)->(L.flatMap fun p=>namL p.body).length<=400*L.length:=by
   intro L;induction L with
   |nil=>intro _;simp
   |cons a L ih =>
    intro hL;have a1:=ih fun p hp=>hL p (qO _ hp)
    have a2:=VL a.body;have a3:=hL a (qU ..);rw[wB,qX,zu];omega
  have a1:=h1 ts.preds a4;have a2:=VL n;unfold takL;rw[qX];omega
 have P:=gL ts (yS ts n);have T:StOk (qu ts (yS ts n)) ⟨0,0⟩:=⟨by simp,by simp,by simp,by simp[pot]⟩;have cf:=Xu ts h J [] ⟨by simp,by simp⟩ (by simp) n hw a0.2.2.2;have o:=pf (szN n) n (qs _) hw.small;have ct:=qj7 ts h J n hw aa a4;have U:WKs [eTS ts,.lst true [],eNd n] [eTS ts,lPm [],eNd n] := .cons (.hf (zq ts)) (.cons (WK.lst fun r hr=>absurd hr qI) (.cons (.hf (ze n)) .nil));have ad:WKs [eTS ts,eNd n] [eTS ts,eNd n] := .cons (.hf (zq ts)) (.cons (.hf (ze n)) .nil);generalize j:yB ts n=R;unfold yB at j;by_cases l:(yg ts [] n).1=0
 case neg =>
  rw[if_pos l]at j;subst j;refine qSV call66 func66 rfl ?_;simp[go_sem];refine qd.pure cf U ?_;simp[go_sem,l];refine qm.seg [0,1,2,4,3] [(0,0,[]),(1,0,[]),(2,0,[]),(4,0,[]),(3,1,[2])] (by kernel_rfl) (by kernel_rfl) (by simp[go_sem]) ?_;simp[go_sem,l];exact Vq _ _
 rw[if_neg (by simpa using l)]at j;cases ha:anyN (fun n=>decide (n.op=47)) n with
 |false =>
  rw[ha]at j o;rw[if_pos rfl]at j;subst j;refine qSV call66 func66 rfl ?_;simp[go_sem];refine qd.pure cf U ?_;simp[go_sem,l];refine qd.pure o (.cons (.hf (ze n)) .nil) ?_;simp[go_sem,l];exact .hf _ (HF.tup fun x hx=>by
   simp only[qw,qI,or_false]at hx;rcases hx with rfl|rfl
   .exact ze n
   .exact HF.sc _)
 |true =>
  rw[ha]at j o;rw[if_neg (by simp)]at j;have a5:=a9 l;have cx:=mD ts h (takL ts n) (yS ts n) hT ab hF P hb 4001 [] [] n false ⟨0,0⟩ ⟨by simp,T,.nil,hw,a5,⟨fun nm=>rfl,fun _ nm v hv=>(by cases hv),fun e he=>absurd he qI⟩,by simp⟩;have ho:=Zr ts (yS ts n) P hb 4001 [] [] n false ⟨0,0⟩ (by simp) T .nil hw a5 ⟨fun nm=>rfl,fun _ nm v hv=>(by cases hv),fun e he=>absurd he qI⟩;have a6:=fun {n' z s'}=>Yo ts J (yS ts n) 4001 (env:=[]) (n:=n) (n':=n') (body:=false) (s:=⟨0,0⟩) (s':=s') (z:=z) (fun e he=>absurd he qI) hw
  have a7:=fun {n' z s'}=>j9 ts P 4001 (env:=[]) (n:=n) (n':=n') (body:=false) (s':=s') (z:=z) T .nil
  have a8:=fun {d}=>Yp ts (yS ts n) 4001 (env:=[]) (n:=n) (body:=false) (s:=⟨0,0⟩) (d:=d)
  unfold outI at j;unfold ExpW at cx;generalize expR ts (yS ts n) 4001 [] n false ⟨0,0⟩=q at *
  generalize expI ts (yS ts n) 4001 [] n false ⟨0,0⟩=E at *
  have ae:(4000<q.1.cost/\R=(nd0,2))\/(¬ 4000<q.1.cost/\Small q.2.1/\depN q.2.1<=1000000/\((400<q.2.2/\R=(nd0,2))\/(¬ 400<q.2.2/\24<depN q.2.1/\R=(nd0,2))\/(¬ 400<q.2.2/\¬ 24<depN q.2.1/\R=(q.2.1,0)))):=by
   cases E with
   |error d =>
    have:=a8 rfl;subst this;exact .inl ⟨ho.1,j.symm⟩
   |ok r =>
    obtain⟨⟨m,y⟩,t⟩:=r;obtain⟨o1,o2,o3⟩:=ho;obtain⟨s1,s2⟩:=a6 rfl;have g:=a7 rfl;have gc:=g.c1;have gz:=g.cz;have dl:=gB m;rw[o1,o2,o3];have gz:0+y<=t.cost:=gz;refine .inr ⟨by omega,s2,by omega,?_⟩;simp only at j;by_cases z1:y<=400
    .by_cases z2:depN m<=24
     .rw [if_pos ⟨z1,z2⟩]at j
      exact .inr (.inr ⟨by omega,by omega,j.symm⟩)
     .rw [if_neg (fun x=>z2 x.2)]at j
      exact .inr (.inl ⟨by omega,by omega,j.symm⟩)
    .rw [if_neg (fun x=>z1 x.1)]at j
     exact .inl ⟨by omega,j.symm⟩
  clear j ho a6 a7 a8;refine qSV call66 func66 rfl ?_;simp[go_sem];refine qd.pure cf U ?_;simp[go_sem,l];refine qd.pure o (.cons (.hf (ze n)) .nil) ?_;simp[go_sem,l];refine qm.seg [0,1,2,5,3,4,6,7,8,9,10,15,11,12,13,14] [(0,0,[]),(1,0,[]),(2,0,[]),(5,0,[]),(3,1,[0,5]),(4,0,[]),(6,1,[]),(7,0,[]),(8,0,[]),(9,0,[]),(10,0,[]),(15,0,[]),(11,2,[0,1,2,5]),(12,2,[0,1,2,5]),(13,1,[]),(14,1,[])] (by kernel_rfl) (by kernel_rfl) (by simp[go_sem]) ?_;simp[go_sem,l];refine qd.pure ct ad ?_;simp[go_sem,l];refine qd.pure cx ?_ ?_
  .exact .cons (.hf (uo ts (takL ts n) ⟨0,0⟩)) (.cons (WK.lst fun r hr=>absurd hr qI) (.cons (.hf (ze n)) (.cons (.hf (HF.sc _)) .nil)))
  simp[go_sem,l];have af:∀ I:Mu,Rd I (.tup [eNd q.2.1,aI 0]) (.tup [eNd q.2.1,aI 0]):=fun I => .hf _ (HF.tup fun x hx=>by
   simp only[qw,qI,or_false]at hx;rcases hx with rfl|rfl
   .exact ze _
   .exact HF.sc _)
  rcases ae with ⟨g1,C⟩|⟨g1,gs,gd,⟨C,g3⟩|⟨C,g3,g4⟩|⟨C,g3,g4⟩⟩
  .rw [C]
   simp[go_sem,l,g1];exact Vq _ _
  .rw [g3]
   simp[go_sem,l,g1,C];exact Vq _ _
  .rw [g4]
   simp[go_sem,l,g1,C];refine qd.pure (XA (szN q.2.1) q.2.1 (qs _) gs gd) (.cons (.hf (ze _)) .nil) ?_;simp[go_sem,l,g1,C,g3];exact Vq _ _
  .rw [g4]
   simp[go_sem,l,g1,C];refine qd.pure (XA (szN q.2.1) q.2.1 (qs _) gs gd) (.cons (.hf (ze _)) .nil) ?_;simp[go_sem,l,g1,C,g3];exact af _
end RB
namespace FE
open Y1 Y9
def zF(op a s:Int)(i:Nat)(k:Int):Int:=if op=48\/op=49\/op=51 then k*s else if i=1/\(op=45\/op=46\/op=15) then k*a else k
def minW(v:Int):Int:=if 1000000<v then 1000000 else v
mutual
def wkN(a s:Int):Nd->Int
 | .mk op _ _ ks _=>wkNs a s op 0 ks 1
def wkNs(a s op:Int):Nat->List Nd->Int->Int
 |_,[],sum=>sum
 |i,k :: ks,sum=>wkNs a s op (i+1) ks (minW (sum+zF op a s i (wkN a s k)))
end
theorem qkJ(a s:Int)(n:Nd):wkN a s n=wkNs a s n.op 0 n.kids 1:=by
 obtain⟨op,t,i,ks,q⟩:=n;rw[wkN];rfl
theorem mE{op a s:Int}{i:Nat}{k:Int}(j:0<=a/\a<=100)(l:0<=s/\s<=100)(g:0<=k/\k<=1000000):0<=zF op a s i k/\zF op a s i k<=100000000:=by
 unfold zF;have o:=Int.mul_nonneg g.1 j.1;have p:=Int.mul_nonneg g.1 l.1;have r:k*a<=1000000*100:=vh g.2 j.2 j.1 (by omega);have t:k*s<=1000000*100:=vh g.2 l.2 l.1 (by omega);split
 .omega
 .split<;>omega
theorem mF{v:Int}(h:0<=v):0<=minW v/\minW v<=1000000:=by unfold minW;split<;>omega
mutual
theorem mG(a s:Int)(g:0<=a/\a<=100)(i:0<=s/\s<=100):∀ n:Nd,0<=wkN a s n/\wkN a s n<=1000000
 | .mk op _ _ ks _=>by rw[wkN];exact mH a s g i op ks 0 1 (by omega)
theorem mH(a s:Int)(g:0<=a/\a<=100)(j:0<=s/\s<=100)(op:Int):∀(ks:List Nd) (i:Nat) (sum:Int),0<=sum/\sum<=1000000->0<=wkNs a s op i ks sum/\wkNs a s op i ks sum<=1000000
 | [],_,sum,h=>by rw[wkNs];exact h
 |k :: ks,i,sum,h=>by
  rw[wkNs];have l:=mG a s g j k;have o:=mE (op:=op) (i:=i) g j l;exact mH a s g j op ks (i+1) _ (mF (by omega))
end
theorem mI(a s:Int)(ha:0<=a/\a<=100)(hs:0<=s/\s<=100):∀(m:Nat) (n:Nd),szN n<=m->Small n->qe qc 67 [eNd n,aI a,aI s] (aI (wkN a s n))
 | 0,n,hm,_=>by obtain⟨op,nm,i,ks,p⟩:=n;simp[szN]at hm
 |m+1,n,hm,a6=>by
  have ih:∀ k,k∈n.kids->qe qc 67 [eNd k,aI a,aI s] (aI (wkN a s k)):=fun k hk=>mI a s ha hs m k (by have:=yx hk;omega) (a6.kid hk)
  rw[qkJ];have a8:=a6.len;generalize hR:wkNs a s n.op 0 n.kids 1=R;refine qSV call67 func67 rfl ?_;simp[go_sem];refine qk.upK n.kids.length (fun k st=>∃ sum:Int,st.tm 1=aI a/\st.tm 2=aI s/\st.tm 3 = .ip (cNd n)/\st.tm 7=aI sum/\st.tm 8=aI k/\(0<=sum/\sum<=1000000)/\wkNs a s n.op k (n.kids.drop k) sum=R) ?_ ?_
  .exact ⟨1,by simp[go_sem],by simp[go_sem],by simp[go_sem],by simp[go_sem],by simp[go_sem],by omega,by simpa using hR⟩
  .rintro k st hk ⟨sum,r,t,C,e7,e8,a9,o⟩
   by_cases a7:k=n.kids.length
   .subst a7
    rw[yH,wkNs]at o;subst o;simp[go_sem,r,t,C,e7,e8];exact .hf _ (HF.sc _)
   .have l:k<n.kids.length:=by omega
    rw[zG l,wkNs]at o;have w1:qi.wrap ((k:Int)+1)=(k:Int)+1:=qg (by omega) (by omega);have a2:=mG a s ha hs n.kids[k];have aa:=mE (op:=n.op) (i:=k) ha hs a2;have j:=mF (v:=sum+zF n.op a s k (wkN a s n.kids[k])) (by omega);have m1:=Int.mul_nonneg a2.1 ha.1;have m2:=Int.mul_nonneg a2.1 hs.1;have m3:wkN a s n.kids[k] * a<=1000000*100:=vh a2.2 ha.2 ha.1 (by omega);have m4:wkN a s n.kids[k] * s<=1000000*100:=vh a2.2 hs.2 hs.1 (by omega);simp[go_sem,r,t,C,e7,e8,l,qR];refine qd.pure (ih n.kids[k] (qy l)) (.cons (.hf (ze _)) (.cons (.hf (HF.sc _)) (.cons (.hf (HF.sc _)) .nil))) ?_;generalize wkN a s n.kids[k]=K at *
    by_cases I:k=1
    .have g:(k:Int)=1:=by omega
     by_cases U:n.op=48
     .have J:zF n.op a s k K=K*s:=by simp[zF,U,I,g]
      rw[J]at o j;have P:qi.wrap (K*s)=K*s:=qg (by omega) (by omega);have T:qi.wrap (sum+K*s)=sum+K*s:=qg (by omega) (by omega);simp[go_sem,r,t,C,e7,e8,w1,P,T,l,U,eq_true I,eq_true g];exact Keep.mk' ⟨_,by simp[go_sem,r],by simp[go_sem,t],by simp[go_sem,C],by simp[go_sem,minW],by simp[go_sem],j,o⟩
     by_cases a0:n.op=49
     .have J:zF n.op a s k K=K*s:=by simp[zF,a0,I,g]
      rw[J]at o j;have P:qi.wrap (K*s)=K*s:=qg (by omega) (by omega);have T:qi.wrap (sum+K*s)=sum+K*s:=qg (by omega) (by omega);simp[go_sem,r,t,C,e7,e8,w1,P,T,l,a0,eq_true I,eq_true g];exact Keep.mk' ⟨_,by simp[go_sem,r],by simp[go_sem,t],by simp[go_sem,C],by simp[go_sem,minW],by simp[go_sem],j,o⟩
     by_cases a1:n.op=51
     .have J:zF n.op a s k K=K*s:=by simp[zF,a1,I,g]
      rw[J]at o j;have P:qi.wrap (K*s)=K*s:=qg (by omega) (by omega);have T:qi.wrap (sum+K*s)=sum+K*s:=qg (by omega) (by omega);simp[go_sem,r,t,C,e7,e8,w1,P,T,l,a1,eq_true I,eq_true g];exact Keep.mk' ⟨_,by simp[go_sem,r],by simp[go_sem,t],by simp[go_sem,C],by simp[go_sem,minW],by simp[go_sem],j,o⟩
     by_cases a3:n.op=45
     .have J:zF n.op a s k K=K*a:=by simp[zF,a3,I,g]
      rw[J]at o j;have P:qi.wrap (K*a)=K*a:=qg (by omega) (by omega);have T:qi.wrap (sum+K*a)=sum+K*a:=qg (by omega) (by omega);simp[go_sem,r,t,C,e7,e8,w1,P,T,l,a3,eq_true I,eq_true g];exact Keep.mk' ⟨_,by simp[go_sem,r],by simp[go_sem,t],by simp[go_sem,C],by simp[go_sem,minW],by simp[go_sem],j,o⟩
     by_cases a4:n.op=46
     .have J:zF n.op a s k K=K*a:=by simp[zF,a4,I,g]
      rw[J]at o j;have P:qi.wrap (K*a)=K*a:=qg (by omega) (by omega);have T:qi.wrap (sum+K*a)=sum+K*a:=qg (by omega) (by omega);simp[go_sem,r,t,C,e7,e8,w1,P,T,l,a4,eq_true I,eq_true g];exact Keep.mk' ⟨_,by simp[go_sem,r],by simp[go_sem,t],by simp[go_sem,C],by simp[go_sem,minW],by simp[go_sem],j,o⟩
     by_cases a5:n.op=15
     .have J:zF n.op a s k K=K*a:=by simp[zF,a5,I,g]
      rw[J]at o j;have P:qi.wrap (K*a)=K*a:=qg (by omega) (by omega);have T:qi.wrap (sum+K*a)=sum+K*a:=qg (by omega) (by omega);simp[go_sem,r,t,C,e7,e8,w1,P,T,l,a5,eq_true I,eq_true g];exact Keep.mk' ⟨_,by simp[go_sem,r],by simp[go_sem,t],by simp[go_sem,C],by simp[go_sem,minW],by simp[go_sem],j,o⟩
     have J:zF n.op a s k K=K:=by simp[zF,U,a0,a1,a3,a4,a5,I,g]
     rw[J]at o j;have P:=w1;have T:qi.wrap (sum+K)=sum+K:=qg (by omega) (by omega);simp[go_sem,r,t,C,e7,e8,w1,P,T,l,U,a0,a1,a3,a4,a5,eq_true I,eq_true g];exact Keep.mk' ⟨_,by simp[go_sem,r],by simp[go_sem,t],by simp[go_sem,C],by simp[go_sem,minW],by simp[go_sem],j,o⟩
    .have g:¬(k:Int)=1:=by omega
     by_cases U:n.op=48
     .have J:zF n.op a s k K=K*s:=by simp[zF,U,I,g]
      rw[J]at o j;have P:qi.wrap (K*s)=K*s:=qg (by omega) (by omega);have T:qi.wrap (sum+K*s)=sum+K*s:=qg (by omega) (by omega);simp[go_sem,r,t,C,e7,e8,w1,P,T,l,U,I,g];exact Keep.mk' ⟨_,by simp[go_sem,r],by simp[go_sem,t],by simp[go_sem,C],by simp[go_sem,minW],by simp[go_sem],j,o⟩
     by_cases a0:n.op=49
     .have J:zF n.op a s k K=K*s:=by simp[zF,a0,I,g]
      rw[J]at o j;have P:qi.wrap (K*s)=K*s:=qg (by omega) (by omega);have T:qi.wrap (sum+K*s)=sum+K*s:=qg (by omega) (by omega);simp[go_sem,r,t,C,e7,e8,w1,P,T,l,a0,I,g];exact Keep.mk' ⟨_,by simp[go_sem,r],by simp[go_sem,t],by simp[go_sem,C],by simp[go_sem,minW],by simp[go_sem],j,o⟩
     by_cases a1:n.op=51
     .have J:zF n.op a s k K=K*s:=by simp[zF,a1,I,g]
      rw[J]at o j;have P:qi.wrap (K*s)=K*s:=qg (by omega) (by omega);have T:qi.wrap (sum+K*s)=sum+K*s:=qg (by omega) (by omega);simp[go_sem,r,t,C,e7,e8,w1,P,T,l,a1,I,g];exact Keep.mk' ⟨_,by simp[go_sem,r],by simp[go_sem,t],by simp[go_sem,C],by simp[go_sem,minW],by simp[go_sem],j,o⟩
     have J:zF n.op a s k K=K:=by simp[zF,U,a0,a1,I,g]
     rw[J]at o j;have P:=w1;have T:qi.wrap (sum+K)=sum+K:=qg (by omega) (by omega);simp[go_sem,r,t,C,e7,e8,w1,P,T,l,U,a0,a1,I,g];exact Keep.mk' ⟨_,by simp[go_sem,r],by simp[go_sem,t],by simp[go_sem,C],by simp[go_sem,minW],by simp[go_sem],j,o⟩
end FE
namespace FF
end FF
namespace IB
open QU P1 P2 Y1 YF Y9 Y10 Y16 PA YC YG Q4 Q6 Q8 PF QT RB QL FE
section
variable {ts:TS}
abbrev bigT(ts:TS):Prop:=∀ x,x∈ts.sorts->x.1.size<=4611686018427387904
structure SpD (ts:TS):Prop where
 h:okTS ts
 wp:∀ p,p∈ts.preds->WfN p.body
 wf:∀ f,f∈ts.facts->WfN f.2
 hv:∀ p,p∈ts.preds->zb p.body=true
 hf:∀ f,f∈ts.facts->zb f.2=true
theorem mJ(h:yb ts=true)(i:bigT ts):SpD ts:=by
 obtain⟨ok,j,wf⟩:=qe9 h i;simp only[yb,limB,fldB,qr,decide_eq_true_eq,qH]at h;obtain⟨⟨⟨⟨r,t⟩,C⟩,I⟩,hf,l,o⟩:=h;exact⟨ok,j,wf,fun p g=>(l p g).2,fun f g=>o f g⟩
theorem SpD.chk(S:SpD ts):qe qc 61 [eTS ts] (lDg (yZ ts)):=
 qj2 ts S.h S.wp S.wf (fun p g=>(ul.1 (S.hv p g)).2.2.2) (fun f hf=>(ul.1 (S.hf f hf)).2.2.2)
theorem SpD.chkF(S:SpD ts){n:Nd}(g:zb n=true):qe qc 75 [eTS ts,lPm [],eNd n] (eDg (yg ts [] n)):=
 Xu ts S.h S.wp [] ⟨by simp,by simp⟩ (by simp) n (ug g) (ul.1 g).2.2.2
theorem qkK(S:SpD ts)(j:yZ ts=[]):∀ p,p∈ts.preds->WfN p.body/\jt ts p.body:=fun p g=>⟨S.wp p g,by
 obtain⟨i,l,rfl⟩:=vE.1 g;obtain⟨_,r,o⟩:=VB (nz j i l);exact Xc (uN S.h (by omega)) (szN ts.preds[i].body) _ _ _ _ (qs _) o (S.wp _ g)⟩
theorem callF(S:SpD ts){n:Nd}(g:zb n=true)(i:(yg ts [] n).1=0):jt ts n:=by
 obtain⟨_,l,j⟩:=VB i;exact Xc (uN S.h (qs _)) (szN n) _ _ _ _ (qs _) j (ug g)
theorem inlR(S:SpD ts)(i:yZ ts=[]){n:Nd}(g:zb n=true):qe qc 66 [eTS ts,eNd n] (.tup [eNd (yB ts n).1,aI (yB ts n).2]):=
 inlRU ts S.h S.hv (qkK S i) n g (callF S g)
theorem qkL(S:SpD ts)(o:yZ ts=[]){n:Nd}(j:zb n=true)(g:(yB ts n).2=0):zb (yB ts n).1=true:=by
 by_cases i:(yg ts [] n).1=0
 .cases l:anyN (fun n=>decide (n.op=47)) n with
  |false =>
   have:yB ts n=(n,0):=by unfold yB;rw[if_neg (by simpa using i),if_pos l]
   rw[this];exact j
  |true=>exact(qiO S.h S.hv o j i l (Prod.ext rfl g)).1
 .unfold yB at g
  rw[if_pos i]at g;exact absurd g i
def qkM(ts:TS)(a s:Int)(l:List Nd):Bool:=l.all fun b=>!(decide ((yB ts b).2=0)&&decide (3000<wkN a s (yB ts b).1))
def XD(ts:TS)(a s:Int)(n:Nd):Bool:=qkM ts a s (ts.facts.map Prod.snd++[n])
theorem qkN(S:SpD ts)(g:yZ ts=[]){n:Nd}(i:zb n=true)(j:(yB ts n).2=0):Small (yB ts n).1:=(ug (qkL S g i j)).small
end
end IB
namespace IN
open Y1 P1 YF
def wA(I:Nd->Nd×Int)(W:Nd->Int)(l:List Nd):Bool:=l.all fun b=>!(decide ((I b).2=0)&&decide (3000<W (I b).1))
theorem qkO(ts:TS)(I:Nd->Nd×Int)(W:Nd->Int)(a3:ts.facts.length<=1000)(a s:Int)(n:Nd)(step:∀ b,b∈ts.facts.map Prod.snd++[n]->qe qc 66 [eTS ts,eNd b] (.tup [eNd (I b).1,aI (I b).2]))(zF:∀ b,b∈ts.facts.map Prod.snd++[n]->(I b).2=0->qe qc 67 [eNd (I b).1,aI a,aI s] (aI (W (I b).1))):qe qc 19 [eTS ts,aI a,aI s,eNd n] (aB (wA I W (ts.facts.map Prod.snd++[n]))):=by
 have a4:(ts.facts.map Prod.snd++[n]).length=ts.facts.length+1:=by simp
 have T:∀(k:Nat) (h:k<ts.facts.length) (h2:k<(ts.facts.map Prod.snd++[n]).length),(ts.facts.map Prod.snd++[n])[k]=ts.facts[k].2:=fun k h h2=>by rw[List.getElem_append_left (by simpa using h)];simp
 have U:∀(h2:ts.facts.length<(ts.facts.map Prod.snd++[n]).length),(ts.facts.map Prod.snd++[n])[ts.facts.length]=n:=fun h2=>by rw[List.getElem_append_right (by simp)];simp
 generalize ts.facts.map Prod.snd++[n]=L at *
 generalize hR:wA I W L=R;refine qSV call19 func19 rfl ?_;simp[go_sem];refine qk.upK (ts.facts.length+1) (fun k st=>st.tm 1=aI a/\st.tm 2=aI s/\st.tm 4 = .ip (cTS ts)/\st.tm 7 = .ip (cNd n)/\st.tm 9=aI k/\wA I W (L.drop k)=R) ?_ ?_
 .exact ⟨by simp[go_sem],by simp[go_sem],by simp[go_sem],by simp[go_sem],by simp[go_sem],by simpa using hR⟩
 rintro k st a5 ⟨C,J,o,P,p,g⟩;have wi:∀ b:Nd,WKs [eTS ts,eNd b] [eTS ts,eNd b]:=fun b => .cons (.hf (zq ts)) (.cons (.hf (ze b)) .nil)
 have ww:∀ b:Nd,WKs [eNd b,aI a,aI s] [eNd b,aI a,aI s]:=fun b => .cons (.hf (ze b)) (.cons (.hf (HF.sc _)) (.cons (.hf (HF.sc _)) .nil))
 have w1:qi.wrap ((k:Int)+1)=(k:Int)+1:=qg (by omega) (by omega);by_cases j:k<ts.facts.length+1
 .have i:k<L.length:=by omega
  have a1:k<=ts.facts.length:=by omega
  have a0:(k:Int)<=ts.facts.length:=by omega
  have c1:=step _ (qy i);have c2:=zF _ (qy i);rw[zG i,wA,List.all_cons]at g;by_cases hf:k<ts.facts.length
  .rw [T k hf i]at g c1 c2
   generalize I ts.facts[k].2=ib at *
   obtain⟨b',e'⟩:=ib;simp only at g c1 c2;simp[go_sem,o,P,p,hf,a1,a0];refine qd.pure c1 (wi _) ?_;simp[go_sem];by_cases r:e'=0
   .subst r
    have c3:=c2 rfl;simp[go_sem,C,J];refine qd.pure c3 (ww b') ?_;generalize W b'=w at *
    by_cases l:3000<w
    .simp [l]at g
     subst g;simp[go_sem,l];exact .hf _ (HF.sc _)
    .simp [l]at g
     simp[go_sem,l,p,w1,j];exact Keep.mk' ⟨by simp[go_sem,C],by simp[go_sem,J],by simp[go_sem,o],by simp[go_sem,P],by simp[go_sem],by simpa[wA] using g⟩
   .simp [r]at g
    simp[go_sem,r,p,w1,j];exact Keep.mk' ⟨by simp[go_sem,C],by simp[go_sem,J],by simp[go_sem,o],by simp[go_sem,P],by simp[go_sem],by simpa[wA] using g⟩
  .have t:k=ts.facts.length:=by omega
   subst t;rw[U i]at g c1 c2;generalize I n=ib at *
   obtain⟨b',e'⟩:=ib;simp only at g c1 c2;simp[go_sem,o,P,p];refine qd.pure c1 (wi _) ?_;simp[go_sem];by_cases r:e'=0
   .subst r
    have c3:=c2 rfl;simp[go_sem,C,J];refine qd.pure c3 (ww b') ?_;generalize W b'=w at *
    by_cases l:3000<w
    .simp [l]at g
     subst g;simp[go_sem,l];exact .hf _ (HF.sc _)
    .simp [l]at g
     simp[go_sem,l,p,w1,j];exact Keep.mk' ⟨by simp[go_sem,C],by simp[go_sem,J],by simp[go_sem,o],by simp[go_sem,P],by simp[go_sem],by simpa[wA] using g⟩
   .simp [r]at g
    simp[go_sem,r,p,w1,j];exact Keep.mk' ⟨by simp[go_sem,C],by simp[go_sem,J],by simp[go_sem,o],by simp[go_sem,P],by simp[go_sem],by simpa[wA] using g⟩
 .have t:k=ts.facts.length+1:=by omega
  subst t;rw[YP (by omega)]at g;have a2:R=true:=by rw[<-g];rfl
  subst a2;simp[go_sem,o,p,show ¬((ts.facts.length:Int)+1<=ts.facts.length) by omega];exact .hf _ (HF.sc _)
end IN
namespace IF
open P1 Y1 YF Y16 YG Q4 FE IB IN
theorem qkP{ts:TS}(S:SpD ts)(i:yZ ts=[])(a s:Int)(l:0<=a/\a<=100)(o:0<=s/\s<=100){n:Nd}(p:zb n=true):qe qc 19 [eTS ts,aI a,aI s,eNd n] (aB (XD ts a s n)):=by
 have j:∀ b,b∈ts.facts.map Prod.snd++[n]->zb b=true:=fun b g=>by
  rcases qG.1 g with h|h
  .obtain ⟨f,hf,rfl⟩:=qp.1 h
   exact S.hf f hf
  .rw [qN]at h;subst h;exact p
 exact qkO ts (yB ts) (wkN a s) (by have:=S.h.nfa;omega) a s n (fun b g=>inlR S i (j b g)) (fun b g r=>mI a s l o _ _ (qs _) (qkN S i (j b g) r))
end IF
namespace IC
open P1 E1 E3 GF GS GU GW GY HA
structure Betw (sc:Sc) (vs:List Bool) (bs:List Bd) (N:Nat) (m:Md):Prop where
 sc:m.sc=sc
 lp:∃ k:Nat,k<N/\m.loop=k
 ns:m.states.length=N
 len:∀ s,s∈m.states->s.length=bs.length
 rel:∀(k f:Nat) (hk:k<m.states.length) (hf:f<bs.length) (h2:f<m.states[k].length),m.states[k][f].ar=bs[f].lo.ar/\sorted m.states[k][f].ts/\(∀ t,t∈bs[f].lo.ts->t∈m.states[k][f].ts)/\∀ t,t∈m.states[k][f].ts->t∈bs[f].up.ts
 fix:∀(k f:Nat) (hk:k<m.states.length) (h0:0<m.states.length) (h2:f<m.states[k].length) (h3:f<m.states[0].length),vs.getD f true=false->m.states[k][f]=m.states[0][f]
theorem inst_betw{ts:TS}{sc:Sc}{g:List Bd}(B:BndV ts sc g){N:Nat}(U:1<=N){m:Md}(h:m∈uS sc (vsT ts) g (chs (vsT ts) (qE g 0) N) N):Betw sc (vsT ts) g N m:=by
 obtain⟨k,c,r,t,rfl⟩:=pG.1 h;have C:(yA sc (vsT ts) g c N k).states.length=N:=by simp[yA]
 have o:∀ s,s∈(yA sc (vsT ts) g c N k).states->∃ j,s=jh (vsT ts) g c j:=fun s p=>by
  obtain⟨j,_,rfl⟩:=qp.1 p;exact⟨j,rfl⟩
 refine⟨rfl,⟨k,r,rfl⟩,C,fun s p=>?_,fun j f l hf i=>?_,fun j f l h0 i h3 I=>?_⟩
 .obtain ⟨j,rfl⟩:=o s p
  rw[Ze]
 .simp only[yA,Zt,List.getElem_range]at i⊢
  obtain⟨J,P,R,T⟩:=pV B t j f hf i;exact⟨J,P,R,T⟩
 .have hf:f<g.length:=by
   have:(yA sc (vsT ts) g c N k).states[j]=jh (vsT ts) g c j:=by simp[yA]
   rw[this,Ze]at i;exact i
  simp only[yA,Zt,List.getElem_range,Yk _ _ _ _ _ hf];by_cases l:j=0
  .subst l;rfl
  .rw [if_pos ⟨l,I⟩,if_neg (by simp)]
end IC
namespace ID
open P1 E1 E3 GS GW HI IC
theorem mK{a b:Rl}:inOk a b=true↔∀ t,t∈a.ts->t∈b.ts:=by simp[inOk,qH]
theorem qkQ{ts:TS}{sc:Sc}{b c:List Bd}(B:BndV ts sc b)(C:BndV ts sc c){N:Nat}{m:Md}(h:Betw sc (vsT ts) b N m) :
  cntB c m=true↔∀(k f:Nat) (g:k<m.states.length) (hf:f<c.length) (r:f<m.states[k].length),(∀ t,t∈c[f].lo.ts->t∈m.states[k][f].ts)/\∀ t,t∈m.states[k][f].ts->t∈c[f].up.ts:=by
 have J:b.length=c.length:=by rw[B.len,C.len]
 constructor
 .intro l k f g hf r
  have o:=qH.1 l _ (qy g);simp only[wthS,qr,decide_eq_true_eq,qH]at o;have p:=o.2 (c[f],m.states[k][f]) (by
   rw[vE];exact⟨f,by simp;omega,by simp⟩)
  simp only[wthB,qr,decide_eq_true_eq,mK]at p;exact p.2.2
 .intro l
  refine WL fun k g=>?_
  have I:=h.len _ (qy g);simp only[wthS,qr,decide_eq_true_eq];refine⟨by omega,WL fun f hf=>?_⟩;simp only[List.length_zip]at hf;have i:f<c.length:=by omega
  have j:f<m.states[k].length:=by omega
  obtain⟨c1,c2⟩:=l k f g i j;have P:=(h.rel k f g (by omega) j).1;have R:=B.lo f (by omega) (by rw[<-B.len];omega);have T:=C.lo f i (by rw[<-C.len];omega);simp only[List.getElem_zip,wthB,qr,decide_eq_true_eq,mK];exact⟨by omega,by omega,c1,c2⟩
end ID
namespace IE
end IE
namespace IK
open P1 E1 G5 GF GQ GR GS GU GW IB Y16
structure Cx (ts:TS) (sc:Sc) (b:List Bd) (N:Nat):Prop where
 S:SpD ts
 hk:yZ ts=[]
 F:Fit9 ts sc
 z:yp sc=true
 h5:sumI sc.atoms<=5
 B:BndV ts sc b
 hS:sc.steps=N
 c9:(chs (vsT ts) (qE b 0) N).length<=9
theorem full5{ts:TS}{sc:Sc}(F:Fit9 ts sc)(g:sumI sc.atoms<=5){f:Fld}(hf:f∈ts.fields):(zU sc f.sorts).length<=1000/\sorted (zU sc f.sorts):=by
 obtain⟨a,b,_⟩:=py F g _ (List.mem_map_of_mem (f:=fun f:Fld=>(⟨⟨f.sorts.length,[]⟩,⟨f.sorts.length,zU sc f.sorts⟩⟩:Bd)) hf);exact⟨a,b⟩
theorem mL(M:Nat):∀(l:List Bd) (k:Nat),(∀ x,x∈l->x.up.ts.length<=M)->(qE l k).length<=l.length*M
 | [],k,_=>by simp[qE]
 |x :: l,k,h=>by
  have i:=h x (by simp);have j:(yi k x).length<=x.up.ts.length:=by rw[yi,zH];exact List.length_filter_le _ _
  have o:=mL M l (k+1) fun y g=>h y (by simp[g])
  simp only[qE,qX,zu,Nat.add_mul,Nat.one_mul];omega
namespace Cx
variable {ts:TS} {sc:Sc} {b:List Bd} {N:Nat}
end Cx
namespace Cx
variable {ts:TS} {sc:Sc} {b:List Bd} {N:Nat}
end Cx
namespace Cx
variable {ts:TS} {sc:Sc} {b:List Bd} {N:Nat}
end Cx
end IK
namespace IL
open P1 GP GS GZ IK
variable {ts:TS} {sc:Sc} {b:List Bd} {N:Nat}
theorem qkR(X:Cx ts sc b N)(g:List (List Bool))(lp:Int)(r:0<=lp):anyM sc (vsT ts) b g (lp % sc.steps)∈LL ts sc b N:=by
 have t:=X.N1;have o:0<=lp % sc.steps/\lp % sc.steps<N:=⟨Int.emod_nonneg _ (by have:=X.hS;omega),by have:=Int.emod_lt_of_pos lp (b:=sc.steps) (by have:=X.hS;omega);have:=X.hS;omega⟩;obtain⟨k,p⟩:=Int.eq_ofNat_of_zero_le o.1;rw[p];refine qf9 sc (vsT ts) b g N k X.hS (by omega) (fun x j=>?_) (fun x j=>(X.bts x j).2.2.1) X.B.sub;obtain⟨i,l,rfl⟩:=Zu j;obtain⟨C,I⟩:=X.B.lo i l (by rw[<-X.B.len];exact l);omega
end IL
namespace I1
open YF P1 EO EP EQ F4 GF GR GS GU
theorem qkS(l:List Int)(x:Int)(P:l.length<=1000000000):qe qc 184 [lI l,aI x] (aB (decide (x∈l))):=by
 refine qSV call184 func184 rfl ?_;simp[go_sem];refine qk.up l.length (fun k st=>st.tm 0=lI l/\st.tm 1=aI x/\st.tm 5=aI k/\st.mu=[]/\∀(i:Nat) (h:i<l.length),i<k->l[i]≠x) ?_ ?_
 .simp [go_sem]
 rintro k st R ⟨o,p,r,t,J⟩;by_cases g:k<l.length
 .by_cases j:l[k]=x
  .simp [go_sem,o,p,r,t,g,j]
   rw[decide_eq_true (by rw[<-j];exact qy g)];exact .hf _ (HF.sc _)
  .simp [go_sem,o,p,r,t,g,j]
   refine⟨qg (by omega) (by omega),fun i h C=>?_⟩;rcases Qg.1 C with I|I
   .exact J i h I
   .subst I;exact j
 .simp [go_sem,o,p,r,t,g]
  rw[decide_eq_false (fun h=>by
   obtain⟨i,C,e⟩:=vE.1 h;exact J i C (by omega) e)]
  exact .hf _ (HF.sc _)
def uq(k:Nat)(x:Bd)(j:Nat):List (Int×Int):=((x.up.ts.take j).filter fun t=>!decide (t∈x.lo.ts)).map fun t=>((k:Int),t)
theorem qkT(k:Nat)(x:Bd)(j:Nat)(h:j<x.up.ts.length):uq k x (j+1)=uq k x j++(if x.up.ts[j]∈x.lo.ts then [] else [((k:Int),x.up.ts[j])]):=by
 unfold uq;rw[uK h,List.filter_append,zg];by_cases g:x.up.ts[j]∈x.lo.ts<;>simp[g]
theorem qkU(k:Nat)(x:Bd)(j:Nat):(uq k x j).length<=x.up.ts.length:=by
 unfold uq;rw[zH];exact Nat.le_trans (List.length_filter_le _ _) (List.length_take_le' _ _)
theorem qkW(i:List Bd)(hl:i.length<=1000)(hb:∀ x,x∈i->w7 x):qe qc 106 [lBd i] (lP (qE i 0)):=by
 refine qSV call106 func106 rfl ?_;simp[go_sem];refine qk.upK i.length (fun k st=>st.tm 0=lBd i/\st.tm 4=aI k/\Own st.mu 2 (st.tm 3) ((qE (i.take k) 0).map rP)) ?_ ?_
 .exact ⟨by simp[go_sem],by simp[go_sem],.inl (by simp[go_sem,qE])⟩
 rintro k st hk ⟨t,C,I⟩;by_cases o:k<i.length
 .have w1:qi.wrap ((k:Int)+1)=(k:Int)+1:=qg (by omega) (by omega)
  have hx:=hb _ (qy o);have a3:=hx.up;have a4:=hx.lo;have a1:=Vb (i.take k) 0 fun y hy=>hb y (List.mem_of_mem_take hy)
  have a5:(qE (i.take k) 0).length<=1000000000:=by
   have h2:(i.take k).length<=1000:=by simp;omega
   have h3:=Nat.mul_le_mul_right 1000000 h2;omega
  have J:=ph i k o;have P:uq k i[k] i[k].up.ts.length=yi k i[k]:=by unfold uq;rw[q8];rfl
  simp[go_sem,t,C,o];refine qk.upK i[k].up.ts.length (fun j st2=>st2.tm 0=lBd i/\st2.tm 4=aI k/\st2.tm 5=aI j/\Own st2.mu 2 (st2.tm 3) ((qE (i.take k) 0++uq k i[k] j).map rP)) ?_ ?_
  .exact ⟨by simp[go_sem,t],by simp[go_sem,C],by simp[go_sem],by simpa[go_sem,uq] using I⟩
  clear t C I;rintro j st2 hj ⟨t,C,T,I⟩;by_cases r:j<i[k].up.ts.length
  .have w2:qi.wrap ((j:Int)+1)=(j:Int)+1:=qg (by omega) (by omega)
   have hh:=qkS i[k].lo.ts i[k].up.ts[j] (by omega);have U:=qkT k i[k] j r;have a6:=qkU k i[k] j;simp[go_sem,t,C,T,o,r];refine qm.intro (by kernel_rfl) ?_;simp[go_sem,t,C,T,o,r];refine qd.pure hh (.cons (.hf (zi _)) (.cons (.hf (HF.sc _)) .nil)) ?_;by_cases hm:i[k].up.ts[j]∈i[k].lo.ts
   .rw [if_pos hm,zO]at U
    simp[go_sem,hm,T,r,w2]
    try refine⟨r,Keep.mk' ?_⟩
    try refine Keep.mk' ?_
    refine⟨by simp[go_sem,t],by simp[go_sem,C],by simp[go_sem],?_⟩;rw[U];simpa[go_sem] using I
   .rw [if_neg hm]at U
    simp[go_sem,hm,t,C,T,o,r];refine qD.ownB (e:=141) (sz:=2) (bt:=16) (zv := .agg [aI 0,aI 0]) (xs:=(qE (i.take k) 0++uq k i[k] j).map rP) (ys:=[rP ((k:Int),i[k].up.ts[j])]) (by simp[go_sem]) (by simp[go_sem]) (by simp[go_sem]) rfl rfl (by omega) (by omega) I (by simp[qM]) (Yh _) (Yh [_]) (by simp;omega) ?_;intro a7 l a0 _ _ _;simp[go_sem,T,r,w2]
    try refine⟨r,Keep.mk' ?_⟩
    try refine Keep.mk' ?_
    refine⟨by simp[go_sem,t],by simp[go_sem,C],by simp[go_sem],?_⟩;rw[U,<-zc,zg (l₂:=[_])];simpa[go_sem] using a0
  .have R:j=i[k].up.ts.length:=by omega
   subst R;rw[P,<-J]at I;simp[go_sem,t,C,T,o,w1]
   try refine⟨o,Keep.mk' ?_⟩
   try refine Keep.mk' ?_
   exact⟨by simp[go_sem,t],by simp[go_sem],by simpa[go_sem] using I⟩
 .have R:k=i.length:=by omega
  subst R;rw[q8]at I;simp[go_sem,t,C];exact Own.rdP2 I
theorem mM(ts:TS)(sc:Sc)(bs:List Bd)(N:Nat)(hS:sc.steps=N)(hN:N<=4)(hl:bs.length<=1000)(hb:∀ x,x∈bs->w7 x)(ad:bs.length<=ts.fields.length)(a7:(qE bs 0).length<=100000) :
  qe qc 39 [eTS ts,eSc sc,lBd bs] (lCh (chs (vsT ts) (qE bs 0) N)):=by
 have a3:=qkW bs hl hb;have a5:=WH bs 0;generalize hF:qE bs 0=F at *
 refine qSV call39 func39 rfl ?_;simp[go_sem];refine qd.pure a3 (.cons (.hf (j6 _)) .nil) ?_;simp[go_sem];refine qk.upK N (fun k st=>st.tm 3 = .ip (cTS ts)/\st.tm 4 = .ip [lI sc.atoms,aI sc.steps]/\st.tm 8=lP F/\st.tm 9=aI k/\Own st.mu 3 (st.tm 7) ((chs (vsT ts) F k).map rC)) ?_ ?_
 .exact ⟨by simp[go_sem],by simp[go_sem],by simp[go_sem],by simp[go_sem],.inl (by simp[go_sem,chs])⟩
 rintro k st hk ⟨T,e4,I,J,ho⟩;by_cases a6:k<N
 .have w1:qi.wrap ((k:Int)+1)=(k:Int)+1:=qg (by omega) (by omega)
  have n4:(k:Int)<4:=by omega
  have ae:=WG (vsT ts) F k;have aa:k*F.length<=4*100000:=Nat.mul_le_mul (by omega) a7;simp[go_sem,e4,I,J,hS,a6,n4];refine qk.upK F.length (fun j st2=>st2.tm 3 = .ip (cTS ts)/\st2.tm 4 = .ip [lI sc.atoms,aI sc.steps]/\st2.tm 8=lP F/\st2.tm 9=aI k/\st2.tm 10=aI j/\Own st2.mu 3 (st2.tm 7) ((chs (vsT ts) F k++chA (vsT ts) k (F.take j)).map rC)) ?_ ?_
  .exact ⟨by simp[go_sem,T],by simp[go_sem,e4],by simp[go_sem,I],by simp[go_sem,J],by simp[go_sem],by simpa[go_sem,chA] using ho⟩
  clear T e4 I J ho;rintro j st2 hj ⟨T,e4,I,J,o,a1⟩;by_cases i:j<F.length
  .have w2:qi.wrap ((j:Int)+1)=(j:Int)+1:=qg (by omega) (by omega)
   have hm:=a5 _ (qy i);obtain⟨f,hf⟩:=Int.eq_ofNat_of_zero_le (show 0<=F[j].1 by have:=hm.1;simpa using this);have t:f<ts.fields.length:=by have:=hm.2;rw[hf]at this;simp at this;omega
   have U:0<=F[j].1:=by omega
   have a0:F[j].1.toNat=f:=by omega
   have P:F[j].1<ts.fields.length:=by omega
   have a8:(vsT ts).getD F[j].1.toNat true=ts.fields[f].var:=by rw[hf,Int.toNat_natCast,za,zp,qz t];rfl
   have af:=WE (vsT ts) k (F.take j);have ag:=List.length_take_le j F;have hs:=pz (vsT ts) k F j i;rw[a8]at hs;have a2:∀(K:AV->Mu->Prop),(∀ R l,Own l 3 R ((chs (vsT ts) F k++(chA (vsT ts) k (F.take j)++[((k:Int),F[j].1,F[j].2)])).map rC)->K R l)->qD qc st2.mu #[80,80] (st2.tm 7) (.lst true [[aI k,aI F[j].1,aI F[j].2]]) K:=fun K hK=>by
    refine qD.ownB (e:=175) (sz:=3) (bt:=24) (zv := .agg [aI 0,aI 0,aI 0]) (xs:=(chs (vsT ts) F k++chA (vsT ts) k (F.take j)).map rC) (ys:=[rC ((k:Int),F[j].1,F[j].2)]) (by simp[go_sem]) (by simp[go_sem]) (by simp[go_sem]) rfl rfl (by omega) (by omega) a1 (by simp[qM]) (Zd _) (Zd [_]) (by simp;omega) ?_;intro R l a9 _ _ _;exact hK R l (by rw[<-zc,zg (l₂:=[_])];exact a9)
   by_cases hc:(decide (k=0)||ts.fields[f].var)=true
   .rw [if_pos hc]at hs
    by_cases C:k=0
    .subst C
     simp[go_sem,I,J,o,i];refine qm.intro (by kernel_rfl) ?_;simp[go_sem,I,J,o,i];refine qm.intro (by kernel_rfl) ?_;simp[go_sem,I,J,o,i];refine a2 _ fun R l h1=>?_
     simp[go_sem,o,i,w2]
     try refine⟨i,Keep.mk' ?_⟩
     try refine Keep.mk' ?_
     refine⟨by simp[go_sem,T],by simp[go_sem,e4],by simp[go_sem,I],by simp[go_sem,J],by simp[go_sem],?_⟩;rw[hs];simpa[go_sem] using h1
    .have hv:ts.fields[f].var=true:=by simpa[C] using hc
     simp[go_sem,T,I,J,o,i,C,U,a0,P,t,hv];refine qm.intro (by kernel_rfl) ?_;simp[go_sem,T,I,J,o,i,C,U,a0,P,t,hv];refine qm.intro (by kernel_rfl) ?_;simp[go_sem,T,I,J,o,i,C,U,a0,P,t,hv];refine a2 _ fun R l h1=>?_
     simp[go_sem,o,i,w2]
     try refine⟨i,Keep.mk' ?_⟩
     try refine Keep.mk' ?_
     refine⟨by simp[go_sem,T],by simp[go_sem,e4],by simp[go_sem,I],by simp[go_sem,J],by simp[go_sem],?_⟩;rw[hs];simpa[go_sem] using h1
   .rw [if_neg hc,zO]at hs
    have C:¬k=0:=fun h=>hc (by simp[h])
    have hv:ts.fields[f].var=false:=by simpa[C] using hc
    simp[go_sem,T,I,J,o,i,C,U,a0,P,t,hv,w2];refine qm.intro (by kernel_rfl) ?_;simp[go_sem,T,I,J,o,i,C,U,a0,P,t,hv,w2]
    try refine⟨i,Keep.mk' ?_⟩
    try refine Keep.mk' ?_
    refine⟨by simp[go_sem,T],by simp[go_sem,e4],by simp[go_sem,I],by simp[go_sem,J],by simp[go_sem],?_⟩;rw[hs];simpa[go_sem] using a1
  .have a4:j=F.length:=by omega
   subst a4;rw[q8]at a1;simp[go_sem,I,J,o,w1]
   try refine⟨a6,Keep.mk' ?_⟩
   try refine Keep.mk' ?_
   refine⟨by simp[go_sem,T],by simp[go_sem,e4],by simp[go_sem,I],by simp[go_sem],?_⟩;rw[WD];simpa[go_sem] using a1
 .have a4:k=N:=by omega
  subst a4;simp[go_sem,e4,J,hS];exact Own.rd ho (Zd _).ok fun r hr c hc=>by
   obtain⟨n,_,rfl⟩:=qp.1 hr;simp at hc;rcases hc with rfl|rfl|rfl<;>exact HF.sc _
end I1
namespace W41
open Y1 YF P1 GS
abbrev u8(x:Int):AV := .sc (.int .u8 x)
abbrev lRaw(r:List (List Int)):AV := .lst false (r.map fun l=>[.lst false (l.map fun x=>[u8 x])])
abbrev vd(ts:TS)(sc:Sc)(raw:List (List Int))(n:Nd)(g:List (List Bool))(lp:Int):List AV:=cTS ts++([lI sc.atoms,aI sc.steps,lRaw raw]++(cNd n++[lBB g,u8 lp]))
end W41
namespace I2
open YF P1 EO EP EQ F4 GF G5 GR GS GW HE W41
theorem qkX(ts:TS)(sc:Sc)(F:Fit9 ts sc):qP qc 72 [eTS ts,eSc sc] [] (fun e m=>∃ av,e = .ret av/\Own m 4 av (ts.fields.map (rowD sc))/\(0<ts.fields.length->∃ b,qv av=some b)):=by
 have a0:=F.nf;refine qSW call72 func72 rfl {} ?_;simp[go_sem];refine qk.upK ts.fields.length (fun k st=>st.tm 2 = .ip (cTS ts)/\st.tm 3 = .ip [lI sc.atoms,aI sc.steps]/\st.tm 6=aI k/\Own st.mu 4 (st.tm 5) ((ts.fields.take k).map (rowD sc))/\(0<k->∃ b,qv (st.tm 5)=some b)) ?_ ?_
 .exact ⟨by simp[go_sem],by simp[go_sem],by simp[go_sem],.inl (by simp[go_sem]),fun h=>absurd h (by omega)⟩
 rintro k st hk ⟨t,U,C,I,J⟩;by_cases i:k<ts.fields.length
 .have w1:qi.wrap ((k:Int)+1)=(k:Int)+1:=qg (by omega) (by omega)
  have o:=qy i;have r:=pt sc F.g F.p ts.fields[k].sorts (F.f1 _ o).1 (F.f1 _ o).2 (F.fs _ o);simp[go_sem,t,C,i];refine qm.intro (by kernel_rfl) ?_;simp[go_sem,t,U,C,i];refine qd.pure r (.cons (.hf (zA _)) (.cons (.hf (zi _)) .nil)) ?_;simp[go_sem];refine .inl (jb.ownB (e:=157) (sz:=4) (bt:=64) (zv := .agg [aI 0,.lst true [],aI 0,.lst true []]) (xs:=(ts.fields.take k).map (rowD sc)) (ys:=[rowD sc ts.fields[k]]) (by simp[go_sem]) (by simp[go_sem]) (by simp[go_sem]) rfl rfl (by omega) (by omega) I (by simp[qM,rowD]) (Yi sc _) (Yi sc [_]) (by simp;omega) ?_);intro a1 l P _ _ _ R;simp[go_sem,C,i,w1];refine Keep.mk' ⟨by simp[go_sem,t],by simp[go_sem,U],by simp[go_sem],?_,fun _=>by simp[go_sem];exact R (by simp)⟩;rw[uK i,zg];simpa[go_sem] using P
 .have T:k=ts.fields.length:=by omega
  subst T;rw[q8]at I;simp[go_sem,t,C];exact⟨I,J⟩
def y8(ts:TS)(sc:Sc)(raw:List (List Int))(k:Nat):List (List AV):=((zE ts sc raw).take k).map cBd++(ts.fields.drop k).map (rowD sc)
theorem qkY(ts:TS)(sc:Sc)(raw:List (List Int))(k:Nat)(h:k<=ts.fields.length):(y8 ts sc raw k).length=ts.fields.length:=by
 simp[y8,uT];omega
theorem qkZ(ts:TS)(sc:Sc)(raw:List (List Int))(k:Nat):z6 4 (y8 ts sc raw k):=fun r g=>by
 rcases qG.1 g with h|h
 .obtain ⟨x,_,rfl⟩:=qp.1 h;rfl
 .obtain ⟨x,_,rfl⟩:=qp.1 h;rfl
theorem qk0(ts:TS)(sc:Sc)(raw:List (List Int))(k:Nat)(h:k<ts.fields.length):(y8 ts sc raw k)[k]?=some (rowD sc ts.fields[k]):=by
 have g:(((zE ts sc raw).take k).map cBd).length=k:=by simp[uT];omega
 unfold y8;rw[qV (by omega),g,Nat.sub_self,zp,List.getElem?_drop,Nat.add_zero,qz h];rfl
theorem qk1(ts:TS)(sc:Sc)(raw:List (List Int))(k:Nat)(h:k<ts.fields.length):(y8 ts sc raw k).set k (cBd ((zE ts sc raw)[k]'(by rw[uT];exact h)))=y8 ts sc raw (k+1):=by
 have g:(((zE ts sc raw).take k).map cBd).length=k:=by simp[uT];omega
 have i:k<(zE ts sc raw).length:=by rw[uT];exact h
 unfold y8;rw[List.set_append_right _ _ (by omega),g,Nat.sub_self,zG h,List.map_cons,List.set_cons_zero,uK i,zg,zc];rfl
theorem FzQ.above2{Q:qQ->St->Prop}{i d d' L:Nat}{x x':AV}{st:St}(o:d≠d')(l:Rd (cutM (fun j=>decide (L<=j)) st.mu 0) (st.tm d) x)(g:Rd (cutM (fun j=>decide (L<=j)) st.mu 0) (st.tm d') x')
  (k:Q (.exit i) ((st.put (some d) x st.mu).put (some d') x' (cutM (fun j=>!decide (L<=j)) st.mu 0))):FzQ Q (.exit i) st:=by
 refine⟨_,⟨fun j=>decide (L<=j),rfl,fun j=>?_⟩,trivial,k⟩;simp only[St.put];split
 .rename_i h;subst h;exact .rd _ _ g
 .split
  .rename_i h;subst h;exact .rd _ _ l
  .exact .same _
theorem XF{sz:Nat}:∀{xs:List (List AV)},z6 sz xs->∀(i:Nat) (h:i<xs.length) (j:Nat),j<sz->xs.flatten[i*sz+j]?=xs[i][j]?
 | [],_,i,h,j,l=>absurd h (Nat.not_lt_zero i)
 |r :: xs,w,i,h,j,l=>by
  have g:r.length=sz:=w r (by simp);rw[List.flatten_cons];cases i with
  |zero=>rw[Nat.zero_mul,Nat.zero_add,qx (by omega)];rfl
  |succ i =>
   rw[qV (by rw[g,Nat.succ_mul];omega),g,show (i+1)*sz+j-sz=i*sz+j by rw[Nat.succ_mul];omega];exact XF (fun r g=>w r (by simp[g])) i (by simpa using h) j l
theorem Own.same{sz:Nat}{mu l:Mu}{av:AV}{xs:List (List AV)}(h:Own mu sz av xs)(g:∀ b,qv av=some b->l[b]?=mu[b]?):Own l sz av xs:=by
 rcases h with rfl|⟨b,rfl,i⟩
 .exact .inl rfl
 .exact .inr ⟨b,rfl,by rw[g b rfl];exact i⟩
theorem qk2(ts:TS)(sc:Sc)(F:Fit9 ts sc)(raw:List (List Int))(hr:∀ l,l∈raw->∀ x,x∈l->0<=x/\x<=255):qe qc 33 [eTS ts,eSc sc,lRaw raw] (lBd (zE ts sc raw)):=by
 have cr:=F.nf;have b8:=qkX ts sc F;have aw:=uT ts sc raw;refine qSV call33 func33 rfl ?_;simp[go_sem];refine qd.eff0 b8 ?_ (by rintro r m ⟨P,h,_⟩;cases h);rintro r m ⟨P,h,bo,bq⟩;cases h;simp[go_sem];refine qk.upK ts.fields.length (fun k st=>st.tm 2=lRaw raw/\st.tm 7=r/\st.tm 8=aI k/\Own st.mu 4 r (y8 ts sc raw k)) ?_ ?_
 .exact ⟨by simp[go_sem],by simp[go_sem],by simp[go_sem],by simpa[go_sem,y8] using bo⟩
 rintro k st hk ⟨e2,e7,e8,ho⟩;have b9:=qkY ts sc raw k hk;have aj:=qkZ ts sc raw k;by_cases aa:k<ts.fields.length
 .have w1:qi.wrap ((k:Int)+1)=(k:Int)+1:=qg (by omega) (by omega)
  have ax:=qk0 ts sc raw k aa;obtain⟨BK,br,bs⟩:∃ BK,(zE ts sc raw)[k]?=some BK/\BK=Vi (raw.getD k []) ⟨⟨ts.fields[k].sorts.length,[]⟩,⟨ts.fields[k].sorts.length,zU sc ts.fields[k].sorts⟩⟩:=⟨_,qz (by omega),Vj ts sc raw k (by omega) aa⟩;have ak:(y8 ts sc raw k).set k (cBd BK)=y8 ts sc raw (k+1):=by
   rw[<-qk1 ts sc raw k aa,(qj.1 br).2]
  have cs:=pQ sc F.g ts.fields[k].sorts (F.f1 _ (qy aa)).2;generalize hW:y8 ts sc raw k=W at ho b9 aj ax ak;obtain⟨B,hB⟩:=bq (by omega);rcases ho with h|⟨B',h,hc⟩
  .rw [h]at hB;cases hB
  .rw [h]at hB;cases hB
   have bu:W.flatten.length=W.length*4:=by rw[zZ aj]
   have bv:=(qj.1 hc).1;have bw:W.flatten[k*4+2]?=some (aI ts.fields[k].sorts.length):=by
    have:=XF aj k (by omega) 2 (by omega);rw[this,(qj.1 ax).2];rfl
   have ca:W.flatten[k*4+3]?=some (lI (zU sc ts.fields[k].sorts)):=by
    have:=XF aj k (by omega) 3 (by omega);rw[this,(qj.1 ax).2];rfl
   have bb:=fun x:List AV=>ZG W k x aj
   have ct:=bu;generalize cu:(ts.fields[k].sorts.length:Int)=t at *
   generalize cv:zU sc ts.fields[k].sorts=U at *
   generalize bc:raw.getD k []=rw at *
   generalize cw:W.flatten=FL at *
   have cb:(FL.drop (k*4+2)).take 2=[aI t,lI U]:=by
    obtain⟨a1,a2⟩:=qj.1 bw;obtain⟨b1,b2⟩:=qj.1 ca;rw[zG a1,a2,zG b1,b2];rfl
   simp[go_sem,e7,e8,h,b9,aa,hc];refine OptK.intro (.agg [aI t,lI U]) (by rw[if_pos (by omega),cb]) ?_;simp[go_sem];generalize hR:st.mu.length=R at *
   refine qk.upF U.length (fun j=>Keep (fun st2=>st2.tm 2=lRaw raw/\st2.tm 7=r/\st2.tm 8=aI k/\st2.tm 9 = .ptr R 0/\st2.tm 10 = .ptr (R+1) 0/\st2.tm 11 = .ptr (R+2) 0/\st2.tm 12=aI j/\∃ o a3,st2.mu[R]?=some (.arr [aI t,lI U])/\st2.mu[R+1]?=some (.arr [aI t,o])/\st2.mu[R+2]?=some (.arr [aI t,a3]) /\
    Own st2.mu 1 o ((selW (fun x=>decide (1<x)) rw (U.take j) 0).map rI)/\Own st2.mu 1 a3 ((selW (fun x=>decide (0<x)) rw (U.take j) 0).map rI)/\(∀ b,qv o=some b->R+3<=b)/\(∀ b,qv a3=some b->R+3<=b)/\(∀ b,qv o=some b->qv a3≠some b)/\∀ i,i<R->st2.mu[i]?=st.mu[i]?) .mk) ?_ ?_
   .exact Keep.mk' ⟨by simp[go_sem,e2],by simp[go_sem,e7],by simp[go_sem,e8],by simp[go_sem],by simp[go_sem],by simp[go_sem],by simp[go_sem],.lst true [],.lst true [],by simp[go_sem,hR],by simp[go_sem,hR],by simp[go_sem,hR],.inl (by simp[selW]),.inl (by simp[selW]),by simp[qv],by simp[qv],by simp[qv],fun i hi=>by simp[go_sem];rw[qx (by omega)]⟩
   rintro j st2 hj ⟨f2,f7,f8,f9,f10,f11,f12,o,a3,c9,c10,c11,ol,oh,bl,bh,nb,low⟩;by_cases I:j<U.length
   .skip
    have w2:qi.wrap ((j:Int)+1)=(j:Int)+1:=qg (by omega) (by omega);have an:=gb (fun x=>decide (1<x)) rw U j I;have ao:=gb (fun x=>decide (0<x)) rw U j I;by_cases ab:k<raw.length
    .have be:rw=raw[k]:=by rw[<-bc,za,qz ab];rfl
     by_cases a8:j<raw[k].length
     .have bg:=hr _ (qy ab) _ (qy a8)
      have hx:(raw[k][j]).tmod 4=wtR rw j:=by
       rw[u4 bg.1,wtR,be,if_pos a8,za,qz a8];rfl
      have cx:0<=wtR rw j/\wtR rw j<4:=by rw[<-hx,u4 bg.1];omega
      generalize hw:wtR rw j=w at *
      rcases (show w=0\/w=1\/1<w by omega) with ay|a5|az
      .rw [ay]at hx
       have sl:selW (fun x=>decide (1<x)) rw (U.take (j+1)) 0=selW (fun x=>decide (1<x)) rw (U.take j) 0:=by simpa[ay] using an
       have sh:selW (fun x=>decide (0<x)) rw (U.take (j+1)) 0=selW (fun x=>decide (0<x)) rw (U.take j) 0:=by simpa[ay] using ao
       simp[go_sem,f2,f8,f9,f12,c9,I,w2,ab,a8,hx]
       try refine⟨I,Keep.mk' ?_⟩
       try refine Keep.mk' ?_
       refine⟨by simp[go_sem,f2],by simp[go_sem,f7],by simp[go_sem,f8],by simp[go_sem,f9],by simp[go_sem,f10],by simp[go_sem,f11],by simp[go_sem],o,a3,by simpa[go_sem] using c9,by simpa[go_sem] using c10,by simpa[go_sem] using c11,by rw[sl];simpa[go_sem] using ol,by rw[sh];simpa[go_sem] using oh,bl,bh,nb,by simpa[go_sem] using low⟩
      .rw [a5]at hx
       have sl:selW (fun x=>decide (1<x)) rw (U.take (j+1)) 0=selW (fun x=>decide (1<x)) rw (U.take j) 0:=by simpa[a5] using an
       have sh:selW (fun x=>decide (0<x)) rw (U.take (j+1)) 0=selW (fun x=>decide (0<x)) rw (U.take j) 0++[U[j]]:=by simpa[a5] using ao
       simp[go_sem,f2,f8,f9,f12,c9,I,ab,a8,hx];refine qm.intro (by kernel_rfl) ?_;simp[go_sem,f9,f11,f12,c9,c11,I];refine qD.ownB (e:=3) (sz:=1) (bt:=8) (zv:=aI 0) (xs:=(selW (fun x=>decide (0<x)) rw (U.take j) 0).map rI) (ys:=[rI U[j]]) (by simp[go_sem]) (by simp[go_sem]) (by simp[go_sem]) rfl rfl (by omega) (by omega) oh (by simp[qM]) (zX _) (zX [_]) (by have:=(uh (fun x=>decide (0<x)) rw (U.take j) 0).length_le;have:=List.length_take_le j U;simp;omega) ?_;intro J mh T C a0 b0;have d9:mh[R]?=some (.arr [aI t,lI U]):=by rw[C R (qj.1 c9).1 (fun h=>by have:=bh R h;omega)];exact c9
       have d10:mh[R+1]?=some (.arr [aI t,o]):=by rw[C (R+1) (qj.1 c10).1 (fun h=>by have:=bh _ h;omega)];exact c10
       have d11:mh[R+2]?=some (.arr [aI t,a3]):=by rw[C (R+2) (qj.1 c11).1 (fun h=>by have:=bh _ h;omega)];exact c11
       have ad:=(qj.1 d11).1;have aq:=(qj.1 c11).1;have ae:Own mh 1 o ((selW (fun x=>decide (1<x)) rw (U.take j) 0).map rI):=Own.same ol fun b hb=>C b (Own.lt ol hb) (nb b hb)
       have af:=Own.set ae (i:=R+2) (.arr [aI t,J]) (fun h=>by have:=bl _ h;omega);have a6:=Own.set T (i:=R+2) (.arr [aI t,J]) (fun h=>by have:=a0 _ h;omega);have a9:∀ b,qv J=some b->R+3<=b:=fun b h=>by have:=a0 b h;omega
       have ag:∀ b,qv o=some b->qv J≠some b:=fun b h h2=>by have:=a0 b h2;have:=Own.lt ol h;omega
       have a4:∀ i,i<R->(mh.set (R+2) (.arr [aI t,J]))[i]?=st.mu[i]?:=fun i hi=>by
        rw[zo (by omega),C i (by omega) (fun h=>by have:=bh i h;omega)];exact low i hi
       simp[go_sem,f11,f12,d11,I,w2,Own.one T,Own.cells T]
       try refine⟨I,Keep.mk' ?_⟩
       try refine Keep.mk' ?_
       refine⟨by simp[go_sem,f2],by simp[go_sem,f7],by simp[go_sem,f8],by simp[go_sem,f9],by simp[go_sem,f10],by simp[go_sem,f11],by simp[go_sem],o,J,by simp[go_sem];exact d9,by simp[go_sem];exact d10,by simp[go_sem,ad],by rw[sl];simpa[go_sem] using af,by rw[sh,zg];simpa[go_sem] using a6,bl,a9,ag,by simpa[go_sem] using a4⟩
      .skip
       have b3:0<w:=by omega
       have sl:selW (fun x=>decide (1<x)) rw (U.take (j+1)) 0=selW (fun x=>decide (1<x)) rw (U.take j) 0++[U[j]]:=by simpa[az] using an
       have sh:selW (fun x=>decide (0<x)) rw (U.take (j+1)) 0=selW (fun x=>decide (0<x)) rw (U.take j) 0++[U[j]]:=by simpa[b3] using ao
       simp[go_sem,f2,f8,f9,f12,c9,I,b3,az,ab,a8,hx];refine qm.intro (by kernel_rfl) ?_;simp[go_sem,f9,f11,f12,c9,c11,I];refine qD.ownB (e:=3) (sz:=1) (bt:=8) (zv:=aI 0) (xs:=(selW (fun x=>decide (0<x)) rw (U.take j) 0).map rI) (ys:=[rI U[j]]) (by simp[go_sem]) (by simp[go_sem]) (by simp[go_sem]) rfl rfl (by omega) (by omega) oh (by simp[qM]) (zX _) (zX [_]) (by have:=(uh (fun x=>decide (0<x)) rw (U.take j) 0).length_le;have:=List.length_take_le j U;simp;omega) ?_;intro J mh T C a0 b0;have d9:mh[R]?=some (.arr [aI t,lI U]):=by rw[C R (qj.1 c9).1 (fun h=>by have:=bh R h;omega)];exact c9
       have d10:mh[R+1]?=some (.arr [aI t,o]):=by rw[C (R+1) (qj.1 c10).1 (fun h=>by have:=bh _ h;omega)];exact c10
       have d11:mh[R+2]?=some (.arr [aI t,a3]):=by rw[C (R+2) (qj.1 c11).1 (fun h=>by have:=bh _ h;omega)];exact c11
       have ad:=(qj.1 d11).1;have aq:=(qj.1 c11).1;have ae:Own mh 1 o ((selW (fun x=>decide (1<x)) rw (U.take j) 0).map rI):=Own.same ol fun b hb=>C b (Own.lt ol hb) (nb b hb)
       have af:=Own.set ae (i:=R+2) (.arr [aI t,J]) (fun h=>by have:=bl _ h;omega);have a6:=Own.set T (i:=R+2) (.arr [aI t,J]) (fun h=>by have:=a0 _ h;omega);have a9:∀ b,qv J=some b->R+3<=b:=fun b h=>by have:=a0 b h;omega
       have ag:∀ b,qv o=some b->qv J≠some b:=fun b h h2=>by have:=a0 b h2;have:=Own.lt ol h;omega
       have a4:∀ i,i<R->(mh.set (R+2) (.arr [aI t,J]))[i]?=st.mu[i]?:=fun i hi=>by
        rw[zo (by omega),C i (by omega) (fun h=>by have:=bh i h;omega)];exact low i hi
       simp[go_sem,f11,d11,b3,az,Own.one T,Own.cells T];refine qm.intro (by kernel_rfl) ?_;have e9:(mh.set (R+2) (.arr [aI t,J]))[R]?=some (.arr [aI t,lI U]):=by rw[zo (by omega)];exact d9
       have b4:(mh.set (R+2) (.arr [aI t,J]))[R+1]?=some (.arr [aI t,o]):=by rw[zo (by omega)];exact d10
       have b5:(mh.set (R+2) (.arr [aI t,J]))[R+2]?=some (.arr [aI t,J]):=zr ad;generalize cy:mh.set (R+2) (.arr [aI t,J])=M2 at *
       simp[go_sem,f9,f10,f12,e9,b4,I];refine qD.ownB (e:=3) (sz:=1) (bt:=8) (zv:=aI 0) (xs:=(selW (fun x=>decide (1<x)) rw (U.take j) 0).map rI) (ys:=[rI U[j]]) (by simp[go_sem]) (by simp[go_sem]) (by simp[go_sem]) rfl rfl (by omega) (by omega) af (by simp[qM]) (zX _) (zX [_]) (by have:=(uh (fun x=>decide (1<x)) rw (U.take j) 0).length_le;have:=List.length_take_le j U;simp;omega) ?_;intro al ml b6 au b7 cz;have g9:ml[R]?=some (.arr [aI t,lI U]):=by rw[au R (qj.1 e9).1 (fun h=>by have:=bl R h;omega)];exact e9
       have bi:ml[R+1]?=some (.arr [aI t,o]):=by rw[au (R+1) (qj.1 b4).1 (fun h=>by have:=bl _ h;omega)];exact b4
       have cc:ml[R+2]?=some (.arr [aI t,J]):=by rw[au (R+2) (qj.1 b5).1 (fun h=>by have:=bl _ h;omega)];exact b5
       have l10:=(qj.1 bi).1;have cq:=(qj.1 b5).1;have cd:Own ml 1 J ((selW (fun x=>decide (0<x)) rw (U.take j) 0++[U[j]]).map rI):=by
        rw[zg];exact Own.same a6 fun b hb=>au b (Own.lt a6 hb) (fun h=>ag b h hb)
       have cf:=Own.set b6 (i:=R+1) (.arr [aI t,al]) (fun h=>by have:=b7 _ h;omega);have cg:=Own.set cd (i:=R+1) (.arr [aI t,al]) (fun h=>by have:=a9 _ h;omega);simp[go_sem,f10,f12,bi,I,w2,Own.one b6,Own.cells b6]
       try refine⟨I,Keep.mk' ?_⟩
       try refine Keep.mk' ?_
       refine⟨by simp[go_sem,f2],by simp[go_sem,f7],by simp[go_sem,f8],by simp[go_sem,f9],by simp[go_sem,f10],by simp[go_sem,f11],by simp[go_sem],al,J,by simp[go_sem];exact g9,by simp[go_sem,l10],by simp[go_sem];exact cc,by rw[sl,zg];simpa[go_sem] using cf,by rw[sh];simpa[go_sem] using cg,fun b h=>by have:=b7 b h;omega,a9,fun b h h2=>by have:=b7 b h;have:=Own.lt a6 h2;omega,fun i hi=>?_⟩;simp[go_sem];rw[zo (by omega),au i (by omega) (fun h=>by have:=bl i h;omega)];exact a4 i hi
     .have a5:wtR rw j=1:=by rw[wtR,be,if_neg a8]
      have sl:selW (fun x=>decide (1<x)) rw (U.take (j+1)) 0=selW (fun x=>decide (1<x)) rw (U.take j) 0:=by simpa[a5] using an
      have sh:selW (fun x=>decide (0<x)) rw (U.take (j+1)) 0=selW (fun x=>decide (0<x)) rw (U.take j) 0++[U[j]]:=by simpa[a5] using ao
      simp[go_sem,f2,f8,f9,f12,c9,I,ab,a8];refine qm.intro (by kernel_rfl) ?_;simp[go_sem,f9,f11,f12,c9,c11,I];refine qD.ownB (e:=3) (sz:=1) (bt:=8) (zv:=aI 0) (xs:=(selW (fun x=>decide (0<x)) rw (U.take j) 0).map rI) (ys:=[rI U[j]]) (by simp[go_sem]) (by simp[go_sem]) (by simp[go_sem]) rfl rfl (by omega) (by omega) oh (by simp[qM]) (zX _) (zX [_]) (by have:=(uh (fun x=>decide (0<x)) rw (U.take j) 0).length_le;have:=List.length_take_le j U;simp;omega) ?_;intro J mh T C a0 b0;have d9:mh[R]?=some (.arr [aI t,lI U]):=by rw[C R (qj.1 c9).1 (fun h=>by have:=bh R h;omega)];exact c9
      have d10:mh[R+1]?=some (.arr [aI t,o]):=by rw[C (R+1) (qj.1 c10).1 (fun h=>by have:=bh _ h;omega)];exact c10
      have d11:mh[R+2]?=some (.arr [aI t,a3]):=by rw[C (R+2) (qj.1 c11).1 (fun h=>by have:=bh _ h;omega)];exact c11
      have ad:=(qj.1 d11).1;have aq:=(qj.1 c11).1;have ae:Own mh 1 o ((selW (fun x=>decide (1<x)) rw (U.take j) 0).map rI):=Own.same ol fun b hb=>C b (Own.lt ol hb) (nb b hb)
      have af:=Own.set ae (i:=R+2) (.arr [aI t,J]) (fun h=>by have:=bl _ h;omega);have a6:=Own.set T (i:=R+2) (.arr [aI t,J]) (fun h=>by have:=a0 _ h;omega);have a9:∀ b,qv J=some b->R+3<=b:=fun b h=>by have:=a0 b h;omega
      have ag:∀ b,qv o=some b->qv J≠some b:=fun b h h2=>by have:=a0 b h2;have:=Own.lt ol h;omega
      have a4:∀ i,i<R->(mh.set (R+2) (.arr [aI t,J]))[i]?=st.mu[i]?:=fun i hi=>by
       rw[zo (by omega),C i (by omega) (fun h=>by have:=bh i h;omega)];exact low i hi
      simp[go_sem,f11,f12,d11,I,w2,Own.one T,Own.cells T]
      try refine⟨I,Keep.mk' ?_⟩
      try refine Keep.mk' ?_
      refine⟨by simp[go_sem,f2],by simp[go_sem,f7],by simp[go_sem,f8],by simp[go_sem,f9],by simp[go_sem,f10],by simp[go_sem,f11],by simp[go_sem],o,J,by simp[go_sem];exact d9,by simp[go_sem];exact d10,by simp[go_sem,ad],by rw[sl];simpa[go_sem] using af,by rw[sh,zg];simpa[go_sem] using a6,bl,a9,ag,by simpa[go_sem] using a4⟩
    .have a5:wtR rw j=1:=by
      have:rw=[]:=by rw[<-bc,za,yF (by omega)];rfl
      rw[wtR,this];rfl
     have sl:selW (fun x=>decide (1<x)) rw (U.take (j+1)) 0=selW (fun x=>decide (1<x)) rw (U.take j) 0:=by simpa[a5] using an
     have sh:selW (fun x=>decide (0<x)) rw (U.take (j+1)) 0=selW (fun x=>decide (0<x)) rw (U.take j) 0++[U[j]]:=by simpa[a5] using ao
     simp[go_sem,f2,f8,f9,f12,c9,I,ab];refine qm.intro (by kernel_rfl) ?_;simp[go_sem,f9,f11,f12,c9,c11,I];refine qD.ownB (e:=3) (sz:=1) (bt:=8) (zv:=aI 0) (xs:=(selW (fun x=>decide (0<x)) rw (U.take j) 0).map rI) (ys:=[rI U[j]]) (by simp[go_sem]) (by simp[go_sem]) (by simp[go_sem]) rfl rfl (by omega) (by omega) oh (by simp[qM]) (zX _) (zX [_]) (by have:=(uh (fun x=>decide (0<x)) rw (U.take j) 0).length_le;have:=List.length_take_le j U;simp;omega) ?_;intro J mh T C a0 b0;have d9:mh[R]?=some (.arr [aI t,lI U]):=by rw[C R (qj.1 c9).1 (fun h=>by have:=bh R h;omega)];exact c9
     have d10:mh[R+1]?=some (.arr [aI t,o]):=by rw[C (R+1) (qj.1 c10).1 (fun h=>by have:=bh _ h;omega)];exact c10
     have d11:mh[R+2]?=some (.arr [aI t,a3]):=by rw[C (R+2) (qj.1 c11).1 (fun h=>by have:=bh _ h;omega)];exact c11
     have ad:=(qj.1 d11).1;have aq:=(qj.1 c11).1;have ae:Own mh 1 o ((selW (fun x=>decide (1<x)) rw (U.take j) 0).map rI):=Own.same ol fun b hb=>C b (Own.lt ol hb) (nb b hb)
     have af:=Own.set ae (i:=R+2) (.arr [aI t,J]) (fun h=>by have:=bl _ h;omega);have a6:=Own.set T (i:=R+2) (.arr [aI t,J]) (fun h=>by have:=a0 _ h;omega);have a9:∀ b,qv J=some b->R+3<=b:=fun b h=>by have:=a0 b h;omega
     have ag:∀ b,qv o=some b->qv J≠some b:=fun b h h2=>by have:=a0 b h2;have:=Own.lt ol h;omega
     have a4:∀ i,i<R->(mh.set (R+2) (.arr [aI t,J]))[i]?=st.mu[i]?:=fun i hi=>by
      rw[zo (by omega),C i (by omega) (fun h=>by have:=bh i h;omega)];exact low i hi
     simp[go_sem,f11,f12,d11,I,w2,Own.one T,Own.cells T]
     try refine⟨I,Keep.mk' ?_⟩
     try refine Keep.mk' ?_
     refine⟨by simp[go_sem,f2],by simp[go_sem,f7],by simp[go_sem,f8],by simp[go_sem,f9],by simp[go_sem,f10],by simp[go_sem,f11],by simp[go_sem],o,J,by simp[go_sem];exact d9,by simp[go_sem];exact d10,by simp[go_sem,ad],by rw[sl];simpa[go_sem] using af,by rw[sh,zg];simpa[go_sem] using a6,bl,a9,ag,by simpa[go_sem] using a4⟩
   .skip
    obtain rfl:U.length=j:=by omega
    rw[q8]at ol oh;have da:R+2<st2.mu.length:=(qj.1 c11).1;have ch:(cutM (fun j=>decide (R<=j)) st2.mu 0)[R+1]?=some (.arr [aI t,o]):=by rw[jK,c10];simp
    have cj:(cutM (fun j=>decide (R<=j)) st2.mu 0)[R+2]?=some (.arr [aI t,a3]):=by rw[jK,c11];simp
    have bj:∀ l:List Int,∀ r,r∈l.map rI->∀ c,c∈r->HF c:=fun l r hr c hc=>by
     obtain⟨x,_,rfl⟩:=qp.1 hr;simp at hc;subst hc;exact HF.sc _
    have ck:Rd (cutM (fun j=>decide (R<=j)) st2.mu 0) o (lI (selW (fun x=>decide (1<x)) rw U 0)):=Own.rd (Zc ol fun b hb=>by have:=bl b hb;omega) (zX _).ok (bj _);have cl:Rd (cutM (fun j=>decide (R<=j)) st2.mu 0) a3 (lI (selW (fun x=>decide (0<x)) rw U 0)):=Own.rd (Zc oh fun b hb=>by have:=bh b hb;omega) (zX _).ok (bj _);simp[go_sem,f9,f12,c9];refine FzQ.above2 (d:=10) (d':=11) (L:=R) (x := .ip [aI t,lI (selW (fun x=>decide (1<x)) rw U 0)]) (x' := .ip [aI t,lI (selW (fun x=>decide (0<x)) rw U 0)]) (by decide) ?_ ?_ ?_
    .simp [go_sem,f10]
     refine .ptr (R+1) 0 [aI t,o] _ ch (by simp) fun k u v hu hv=>?_
     match k with
     | 0=>simp at hu hv;subst hu;subst hv;exact .hf _ (HF.sc _)
     | 1=>simp at hu hv;subst hu;subst hv;exact ck
     |k+2=>simp at hv
    .simp [go_sem,f11]
     refine .ptr (R+2) 0 [aI t,a3] _ cj (by simp) fun k u v hu hv=>?_
     match k with
     | 0=>simp at hu hv;subst hu;subst hv;exact .hf _ (HF.sc _)
     | 1=>simp at hu hv;subst hu;subst hv;exact cl
     |k+2=>simp at hv
    have ai:(cutM (fun j=>!decide (R<=j)) st2.mu 0)[B]?=some (.arr FL):=by
     rw[jK,low B bv,hc];simp[show ¬R<=B by omega]
    have bk:B<(cutM (fun j=>!decide (R<=j)) st2.mu 0).length:=(qj.1 ai).1;generalize bm:cutM (fun j=>!decide (R<=j)) st2.mu 0=CM at *
    simp[go_sem,f7,f8,h,aa,ai,bm];refine OptK.intro (.ptr B (k*4)) (if_pos (by omega)) ?_;have a7:=bb (cBd BK) rfl (by omega);rw[ak,yu _ _ _ (by simp;omega)]at a7;have cm:cBd BK=[aI t,lI (selW (fun x=>decide (1<x)) rw U 0),aI t,lI (selW (fun x=>decide (0<x)) rw U 0)]:=by rw[bs];rfl
    rw[cm]at a7;simp only[zc,yD,vf,zu,List.length_nil]at a7;have bn:(y8 ts sc raw (k+1)).length=W.length:=by rw[<-ak,List.length_set]
    simp[go_sem,ai,bm];refine OptK.intro (CM.set B (.arr (y8 ts sc raw (k+1)).flatten)) (by rw[if_pos (by omega),a7]) ?_;simp[go_sem,f2,f7,f8,w1,aa,h];refine Keep.mk' ⟨by simp[go_sem,f2],by simp[go_sem,f7],by simp[go_sem],.inr ⟨B,?_,?_⟩⟩
    .simp [go_sem,f7,h,bn]
    .simp [go_sem]
     rw[zr bk]
 .have cn:k=ts.fields.length:=by omega
  subst cn;have cp:y8 ts sc raw ts.fields.length=(zE ts sc raw).map cBd:=by
   rw[y8,<-aw,q8,aw,yH,List.map_nil,zO]
  rw[cp]at ho;simp[go_sem,e7,e8];refine OptK.intro (aI (zE ts sc raw).length) (by rcases ho with h|⟨b,h,_⟩<;>rw[h]<;>simp) ?_;simp[go_sem,aw,e7,Own.one ho,Own.cells ho];refine Own.rd ho (fun r hr=>?_) fun r hr=>?_
  .obtain ⟨x,_,rfl⟩:=qp.1 hr;rfl
  .obtain ⟨x,_,rfl⟩:=qp.1 hr;exact Wj x
end I2
namespace IJ
open YF P1 E3 EO EQ F4 GB GP GR GS
theorem anyB(ts:TS)(sc:Sc)(F:Fit9 ts sc)(D:List Bd)(bw:D.length=ts.fields.length)(hd:∀ b,b∈D->WA b)(o:List (List Bool))(lp:Int)(b8:0<=lp/\lp<=255) :
  qe qc 26 [eTS ts,eSc sc,lBd D,lBB o,.sc (.int .u8 lp)] (eMd (anyM sc (vsT ts) D o (lp % sc.steps))):=by
 have ca:=F.nf;have s1:=F.s1;have s4:=F.s4;generalize hS:sc.steps=S at *
 obtain⟨N,rfl⟩:=Int.eq_ofNat_of_zero_le (show 0<=S by omega);refine qSV call26 func26 rfl ?_;simp[go_sem];refine qm.intro (by kernel_rfl) ?_;have n1:¬(N:Int)<1:=by omega
 have n0:¬(N:Int)=0:=by omega
 have b9:¬N=0:=by omega
 have wl:qi.wrap lp=lp:=qg (by omega) (by omega);have tm:lp.tmod (N:Int)=lp % (N:Int):=u4 b8.1;simp[go_sem,hS,n1,b9,wl,tm];generalize hL:lp % (N:Int)=L at *
 have bb:anyM sc (vsT ts) D o L=⟨sc,(qt N).map (anyS (vsT ts) D o),L⟩:=by rw[anyM,hS];rfl
 rw[bb];generalize hA:anyS (vsT ts) D o=A at *
 refine qk.upK N (fun k st=>st.tm 3=lBB o/\st.tm 5 = .ip (cTS ts)/\st.tm 6 = .ip [lI sc.atoms,aI sc.steps]/\st.tm 10 = .ptr 0 0/\st.tm 11 = .ptr 1 0/\st.tm 2=lBd D/\st.tm 12=aI k /\
  ∃ s,st.mu[0]?=some (.arr [.lst true [],aI 0,.lst true [],aI 0])/\st.mu[1]?=some (.arr [lI sc.atoms,aI N,s,aI L])/\Own st.mu 1 s (((qt k).map A).map fun r=>[lRel r])/\∀ b,qv s=some b->2<=b) ?_ ?_
 .exact ⟨by simp[go_sem],by simp[go_sem],by simp[go_sem,hS],by simp[go_sem],by simp[go_sem],by simp[go_sem],by simp[go_sem],.lst true [],by simp[go_sem],by simp[go_sem],.inl (by simp),by simp[qv]⟩
 rintro k st hk ⟨e2,e4,e5,e8,e9,ak,a6,s,h0,h1,ho,hb⟩;have ab:=(qj.1 h0).1;have ad:=(qj.1 h1).1;by_cases al:k<N
 .have w1:qi.wrap ((k:Int)+1)=(k:Int)+1:=qg (by omega) (by omega)
  have n4:(k:Int)<4:=by omega
  have a9:=fun fl:Bool=>qfU fl D (o.getD k []) st.mu (by omega) hd
  have bc:=w8 D (o.getD k []);have an:=w8 D (o.getD 0 []);have ae:A 0=zV D (o.getD 0 []):=by rw[<-hA,anyS,if_pos rfl]
  have be:k≠0->A k=fixS (vsT ts) (A 0) (zV D (o.getD k [])) D.length:=fun h=>by rw[ae,<-hA,qfY _ _ _ _ h]
  have ao:k=0->A k=zV D (o.getD k []):=fun h=>by subst h;exact ae
  generalize cb:zV D (o.getD k [])=R at *
  have bu:(A 0).length=D.length:=by rw[ae];exact an
  simp[go_sem,hS,e2,e5,a6,al,n4];by_cases af:k<o.length
  all_goals simp[go_sem,e2,ak,a6,af]
  all_goals first
   | (rw[show lB o[k] = .lst false ((o.getD k []).map rB) by rw[za,qz af];rfl];refine qd.eff0 (a9 false) ?_ (by rintro r m ⟨P,h,_⟩;cases h))
   | (have hi:=a9 true;rw[show (o.getD k []).map rB=[] by rw[za,yF (by omega)];rfl]at hi;refine qd.eff0 hi ?_ (by rintro r m ⟨P,h,_⟩;cases h))
  all_goals
   rintro r m ⟨P,h,bg,bh,ag,cc,bi⟩;cases h;simp[go_sem,af];refine qk.upK D.length (fun j st2=>st2.tm 3=lBB o/\st2.tm 5 = .ip (cTS ts)/\st2.tm 6 = .ip [lI sc.atoms,aI N]/\st2.tm 10 = .ptr 0 0/\st2.tm 11 = .ptr 1 0/\st2.tm 2=lBd D/\st2.tm 12=aI k/\st2.tm 14=r/\st2.tm 15=aI j /\
    Own st2.mu 2 r ((if k=0 then R else fixS (vsT ts) (A 0) R j).map cRel)/\∀ i,i<m.length->qv r≠some i->st2.mu[i]?=m[i]?) ?_ ?_
   .exact ⟨by simp[go_sem,e2],by simp[go_sem,e4],by simp[go_sem,e5,hS],by simp[go_sem,e8],by simp[go_sem,e9],by simp[go_sem,ak],by simp[go_sem,a6],by simp[go_sem],by simp[go_sem],by simpa[go_sem,qfV] using bg,by simp[go_sem]⟩
   rintro j st2 hj ⟨f2,f4,f5,f8,f9,f10,f11,f13,f14,T,a7⟩;have C:∀ i,i<st.mu.length->st2.mu[i]?=st.mu[i]?:=fun i hi=>by rw[a7 i (by omega) (fun h=>by have:=ag i h;omega),bh i hi]
   have a1:(if k=0 then R else fixS (vsT ts) (A 0) R j).length=D.length:=by split<;>simp[qfW,bc]
   have aq:k≠0->j<D.length->(if k=0 then R else fixS (vsT ts) (A 0) R (j+1))=if (vsT ts).getD j true=false then (if k=0 then R else fixS (vsT ts) (A 0) R j).set j ((A 0).getD j noR) else (if k=0 then R else fixS (vsT ts) (A 0) R j):=fun h1 h2=>by rw[if_neg h1,if_neg h1,qfX _ _ _ _ (by omega)]
   have bj:¬(j<D.length/\k≠0)->(if k=0 then R else fixS (vsT ts) (A 0) R j)=A k:=fun h=>by
    by_cases h0:k=0
    .rw [if_pos h0,ao h0]
    .rw [if_neg h0,be h0,show j=D.length by omega]
   generalize hW:(if k=0 then R else fixS (vsT ts) (A 0) R j)=W at *
   simp[go_sem,f13,f14];refine OptK.intro (aI D.length) (by rcases T with h|⟨b,h,_⟩<;>rw[h]<;>simp[a1]) ?_;by_cases a2:j<D.length/\k≠0
   .obtain ⟨t,au⟩:=a2
    have aw:(vsT ts).getD j true=ts.fields[j].var:=by rw[za,zp,qz (show j<ts.fields.length by omega)];rfl
    have w2:qi.wrap ((j:Int)+1)=(j:Int)+1:=qg (by omega) (by omega);have J:st2.mu[1]?=some (.arr [lI sc.atoms,aI N,s,aI L]):=by rw[C 1 ad];exact h1
    simp[go_sem,f4,f11,f14,t,show 0<k by omega,show j<ts.fields.length by omega];cases hv:ts.fields[j].var with
    |true =>
     simp[go_sem,f14,t,w2]
     try refine⟨t,Keep.mk' ?_⟩
     try refine Keep.mk' ?_
     refine⟨by simp[go_sem,f2],by simp[go_sem,f4],by simp[go_sem,f5],by simp[go_sem,f8],by simp[go_sem,f9],by simp[go_sem,f10],by simp[go_sem,f11],by simp[go_sem,f13],by simp[go_sem],?_,by simpa[go_sem] using a7⟩;rw[aq au t,aw,hv,if_neg (by simp)];simpa[go_sem] using T
    |false =>
     obtain⟨b,U⟩:=bi (by omega);have a0:r = .sl b 2 0 W.length/\st2.mu[b]?=some (.arr (W.map cRel).flatten):=by
      rcases T with h|⟨b',h,hc⟩
      .rw [h]at U;cases U
      .rw [h]at U;cases U
       exact⟨by rw[h];simp,hc⟩
     obtain⟨a0,a8⟩:=a0;have bk:=(qj.1 a8).1;have cd:=ag b U;have ah:(W.map cRel).flatten.length=W.length*2:=by rw[zZ (wT W).ok];simp
     have bv:=Own.put (av:=r) (xs:=W.map cRel) (by rw[a0];simp) a8 (wT W).ok (i:=j) (r:=cRel ((A 0).getD j noR)) rfl (by simp;omega);have a3:j<(A 0).length:=by omega
     have bl:(A 0).getD j noR=(A 0)[j]:=by rw[za,qz a3];rfl
     have I:(((qt k).map A).map fun r=>[lRel r]).flatten[0]?=some (lRel (A 0)):=by
      obtain⟨k',rfl⟩:∃ k',k=k'+1:=⟨k-1,by omega⟩;rw[List.range_succ_eq_map];simp
     have ax:(((qt k).map A).map fun r=>[lRel r]).length=k:=by simp
     generalize a4:(((qt k).map A).map fun r=>[lRel r])=rows at *
     have bm:rows[0]?=some [lRel (A 0)]:=by
      rw[<-a4];obtain⟨k',rfl⟩:∃ k',k=k'+1:=⟨k-1,by omega⟩;rw[List.range_succ_eq_map];rfl
     have ay:(rows.map List.length).sum=k:=by
      have:=zZ (sz:=1) (xs:=rows) (by rw[<-a4];intro r hr;obtain⟨n,_,rfl⟩:=qp.1 hr;rfl);rw[List.length_flatten]at this;omega
     have az:rows.flatten.take 1=[lRel (A 0)]:=by
      cases b0:rows.flatten with
      |nil=>rw[b0]at I;cases I
      |cons x l=>rw[b0]at I;cases I;rfl
     have b1:(W.map cRel).flatten.take (j*2)++aI (A 0)[j].ar :: lI (A 0)[j].ts :: (W.map cRel).flatten.drop (j*2+2)=((W.set j (A 0)[j]).map cRel).flatten:=by
      rw[List.map_set,ZG (W.map cRel) j _ (wT W).ok rfl (by simp;omega),yu _ _ _ (by simp only[ah,cRel,zu,List.length_nil];omega)];simp
     have a5:Own (st2.mu.set b (.arr ((W.set j (A 0)[j]).map cRel).flatten)) 2 r ((W.set j (A 0)[j]).map cRel) := .inr ⟨b,by rw[a0];simp,zr bk⟩;have ai:=aq au t;rw[aw,hv,if_pos rfl,bl]at ai;rcases ho with rfl|⟨c,rfl,b2⟩
     .simp [go_sem,f9,f13,f14,J,a0,a1]
      refine OptK.intro (.ip [lRel (A 0)]) (by rw[bm];simp[ax];omega) ?_;simp[go_sem,f14,t,a8,ah,a1,a3];refine OptK.intro (st2.mu.set b (.arr ((W.set j (A 0)[j]).map cRel).flatten)) (by rw[if_pos (by omega),b1]) ?_;simp[go_sem,f14,t,w2]
      try refine⟨t,Keep.mk' ?_⟩
      try refine Keep.mk' ?_
      refine⟨by simp[go_sem,f2],by simp[go_sem,f4],by simp[go_sem,f5],by simp[go_sem,f8],by simp[go_sem,f9],by simp[go_sem,f10],by simp[go_sem,f11],by simp[go_sem,f13],by simp[go_sem],by rw[ai];simpa[go_sem] using a5,fun i hi hn=>?_⟩;simp only[zl];rw[zo (fun e=>hn (by rw[<-e];exact U))];exact a7 i hi hn
     .have bn:=(qj.1 b2).1
      have aa:=C c bn;rw[b2]at aa;simp[go_sem,f9,f13,f14,J,aa,ax,show 0<k by omega,a0,a1];refine OptK.intro (lRel (A 0)) (by rw[ay,if_pos (by omega),az];rfl) ?_;simp[go_sem,f14,t,a8,ah,a1,a3];refine OptK.intro (st2.mu.set b (.arr ((W.set j (A 0)[j]).map cRel).flatten)) (by rw[if_pos (by omega),b1]) ?_;simp[go_sem,f14,t,w2]
      try refine⟨t,Keep.mk' ?_⟩
      try refine Keep.mk' ?_
      refine⟨by simp[go_sem,f2],by simp[go_sem,f4],by simp[go_sem,f5],by simp[go_sem,f8],by simp[go_sem,f9],by simp[go_sem,f10],by simp[go_sem,f11],by simp[go_sem,f13],by simp[go_sem],by rw[ai];simpa[go_sem] using a5,fun i hi hn=>?_⟩;simp only[zl];rw[zo (fun e=>hn (by rw[<-e];exact U))];exact a7 i hi hn
   .have bo:j<D.length->¬ 0<k:=fun h=>by omega
    rw[bj a2]at T;have J:st2.mu[1]?=some (.arr [lI sc.atoms,aI N,s,aI L]):=by rw[C 1 ad];exact h1
    by_cases t:j<D.length<;>simp[go_sem,f9,f11,f13,t,bo,J,Own.one T,Own.cells T]
    all_goals
     refine qD.giveB (e:=105) (sz:=1) (bt:=24) (zv := .lst true []) (xs:=((qt k).map A).map fun r=>[lRel r]) [lRel (A k)] st.mu.length (by simp[go_sem]) (by simp[go_sem]) (by simp[go_sem]) rfl rfl (by omega) (by omega) ?_ (fun b h=>Own.lt ho h) ?_ ?_ ?_ (by simp;omega) ?_
     .rcases ho with h|⟨b,h,hc⟩
      .exact .inl h
      .exact .inr ⟨b,h,by rw[C b (qj.1 hc).1];exact hc⟩
     .exact ⟨Own.rd (Zc T ag) (wT _).ok fun r hr c hc=>by
       obtain⟨n,_,rfl⟩:=qp.1 hr;exact JP n c hc,trivial⟩
     .intro r hr
      obtain⟨n,_,rfl⟩:=qp.1 hr;exact⟨rfl,rfl⟩
     .intro r hr
      simp at hr;subst hr;exact⟨rfl,rfl⟩
     intro b3 b4 aj b5 b6 cf cg;have ch:st.mu.length<=st2.mu.length:=by
      have:=C (st.mu.length-1) (by omega);rw[qz (show st.mu.length-1<st.mu.length by omega)]at this;have:=(qj.1 this).1;omega
     have g1:b4[1]?=some (.arr [lI sc.atoms,aI N,s,aI L]):=by rw[b5 1 (by omega) ad (fun h=>by have:=hb 1 h;omega)];exact J
     have g0:b4[0]?=some (.arr [.lst true [],aI 0,.lst true [],aI 0]):=by rw[b5 0 (by omega) ab (fun h=>by have:=hb 0 h;omega),C 0 ab];exact h0
     have l1:=(qj.1 g1).1;simp[go_sem,f9,f11,g1,w1,Own.one aj,Own.cells aj]
     try refine⟨al,Keep.mk' ?_⟩
     try refine Keep.mk' ?_
     refine⟨by simp[go_sem,f2],by simp[go_sem,f4],by simp[go_sem,f5,hS],by simp[go_sem,f8],by simp[go_sem,f9],by simp[go_sem,f10],by simp[go_sem],b3,by simp[go_sem,g0],by simp[go_sem,l1],?_,fun b h=>by have:=b6 b h;omega⟩;rw[List.range_succ,zg,zg];simpa[go_sem] using Own.set aj (.arr [lI sc.atoms,aI N,b3,aI L]) (fun h=>by have:=b6 1 h;omega)
 .have bq:k=N:=by omega
  subst bq;have br:s.one=true:=Own.one ho;have cj:s.cells=[s]:=Own.cells ho;have b7:∀ c,(st.mu.set 0 c)[0]?=some c:=fun c=>zr ab
  simp[go_sem,hS,e5,e8,e9,a6,h0,h1,br,b7];have bs:=Own.set ho (i:=0) (.arr [lI sc.atoms,aI k,s,aI L]) (fun h=>by have:=hb 0 h;omega);show Rd _ _ (.agg [lI sc.atoms,aI sc.steps,lSt ((qt k).map A),aI L]);rw[hS];refine Rd.aggs ⟨.hf _ (zi _),.hf _ (HF.sc _),?_,.hf _ (HF.sc _),trivial⟩;exact Own.rd bs (fun r hr=>by
   obtain⟨n,_,rfl⟩:=qp.1 hr;rfl) fun r hr c hc=>by
   obtain⟨n,_,rfl⟩:=qp.1 hr;simp at hc;subst hc;exact Z2 n
end IJ
set_option maxHeartbeats 1000000
namespace I5
open GH Y1 Y16 YF P1 Q4 Q8 E1 E3 E4 E9 F1 GD G5 GF GP GQ GR GS GU GV GW HE HH IB IF IJ IK I1 I2 W41
theorem mN(raw:List (List Int)):HF (lRaw raw):=HF.lst fun r i c g=>by
 obtain⟨l,_,rfl⟩:=qp.1 i;simp at g;subst g;exact HF.lst fun r i c g=>by
  obtain⟨x,_,rfl⟩:=qp.1 i;simp at g;subst g;exact HF.sc _
def tiny(m:Md):Prop:=SmS m.states/\m.sc.atoms.length<=1000
theorem eq07(a b:Md)(h:tiny a):qe qc 28 [eMd a,eMd b] (aB (decide (a=b))):=
 qgR a b (by have:=h.2;omega) (by have:=h.1.n;omega) fun s g=>⟨by have:=h.1.f s g;omega,fun r i=>by have:=(h.1.t s g r i).1;omega⟩
theorem has25(l:List Md)(m:Md)(U:l.length<=1000000)(h:∀ x,x∈l->tiny x):qe qc 32 [lMd l,eMd m] (aB (decide (m∈l))):=by
 refine qSV call32 func32 rfl ?_;simp[go_sem];refine qk.upK l.length (fun k st=>st.tm 0=lMd l/\st.tm 3 = .ip (cMd m)/\st.tm 5=aI k/\∀(i:Nat) (h:i<l.length),i<k->l[i]≠m) ?_ ?_
 .exact ⟨by simp[go_sem],by simp[go_sem],by simp[go_sem],fun i h j=>absurd j (Nat.not_lt_zero i)⟩
 rintro k st hk ⟨o,I,p,J⟩;by_cases g:k<l.length
 .have P:qi.wrap ((k:Int)+1)=(k:Int)+1:=qg (by omega) (by omega)
  have R:=h _ (qy g);have T:=eq07 l[k] m R;simp[go_sem,o,p,g];refine qm.intro (by kernel_rfl) ?_;simp[go_sem,o,I,p,g];refine qd.pure T (.cons (.hf (Qz _)) (.cons (.hf (Qz _)) .nil)) ?_;by_cases r:l[k]=m
  .simp [go_sem,r]
   rw[decide_eq_true (by rw[<-r];exact qy g)];exact .hf _ (HF.sc _)
  .simp [go_sem,r,p,g,P]
   try refine⟨g,Keep.mk' ?_⟩
   try refine Keep.mk' ?_
   refine⟨by simp[go_sem,o],by simp[go_sem,I],by simp[go_sem],fun i h j=>?_⟩;rcases Qg.1 j with t|t
   .exact J i h t
   .subst t;exact r
 .have C:k=l.length:=by omega
  subst C;simp[go_sem,o,p];rw[decide_eq_false (fun h=>by
   obtain⟨i,j,e⟩:=vE.1 h;exact J i j j e)]
  exact .hf _ (HF.sc _)
theorem uZ(mu:Mu):Rd mu (.tup [.lst true [],.agg [.lst true [],aI 0,.lst true [],aI 0],aB false]) (.tup [lBd [],eMd mdZ,aB false]):=by
 refine .tup _ _ rfl fun j u v g i=>?_
 match j with
 | 0=>simp at g i;subst g;subst i;exact .wk _ true _ (.hf _ (HF.lst fun r l=>by simp at l))
 | 1=>simp at g i;subst g;subst i;exact qgB mu
 | 2=>simp at g i;subst g;subst i;exact .hf _ (HF.sc _)
 |j+3=>simp at g
theorem qk3(b:List Bd)(m:Md):HF (.tup [lBd b,eMd m,aB true]):=HF.tup (by simp only[qw,qI,or_false,forall_eq_or_imp,forall_eq];exact⟨j6 _,Qz _,HF.sc _⟩)
abbrev tupM(ts:TS)(sc:Sc)(raw:List (List Int))(g:List (List Bool))(lp:Int)(ok:Bool):AV:=if ok=true then .tup [lBd (zE ts sc raw),eMd (anyM sc (vsT ts) (defB ts sc) g (lp % sc.steps)),aB true] else .tup [lBd [],eMd mdZ,aB false]
def ok25(ts:TS)(sc:Sc)(raw:List (List Int))(n:Nd):Bool:=yb ts&&(yQ ts sc&&(decide (sumI sc.atoms<=5)&&(zb n&&(decide (yZ ts=[])&&(decide (yg ts [] n=(0,0))&&(XD ts (sumI sc.atoms) sc.steps n&&(decide ((chs (vsT ts) (qE (zE ts sc raw) 0) sc.steps.toNat).length<=8))))))))
theorem mO{ts:TS}(i:bigT ts){sc:Sc}{raw:List (List Int)}{n:Nd}(h:ok25 ts sc raw n=true):Cx ts sc (zE ts sc raw) sc.steps.toNat/\zb n=true/\(yg ts [] n).1=0:=by
 simp only[ok25,qr,decide_eq_true_eq]at h;obtain⟨j,g,l,o,p,r,I,J⟩:=h;have F:=Vg g;have t:=F.s1;have C:yp sc=true:=by
  simp only[yQ,qr]at g;exact g.2.2.2.2.2.2
 refine⟨⟨mJ j i,p,F,C,l,gg ts sc raw fun f hf=>Wv _ _ _,by omega,?_⟩,o,by rw[r]⟩;omega
theorem qk4(ts:TS)(hs:bigT ts)(sc:Sc)(raw:List (List Int))(hr:∀ l,l∈raw->∀ x,x∈l->0<=x/\x<=255)(n:Nd)(J:List (List Bool))(lp:Int)(a3:0<=lp/\lp<=255) :
  qe qc 25 [.agg (vd ts sc raw n J lp)] (tupM ts sc raw J lp (ok25 ts sc raw n)):=by
 generalize o:ok25 ts sc raw n=R;have C:=fun h=>mO (ts:=ts) hs (sc:=sc) (raw:=raw) (n:=n) h
 unfold ok25 at o C;obtain⟨op,t,i,ks,q⟩:=n;have a4:vd ts sc raw (.mk op t i ks q) J lp=[.lst false (ts.sorts.map uF),.lst false (ts.fields.map jo),lPd ts.preds,lFa ts.facts,lI sc.atoms,aI sc.steps,lRaw raw,aI op,aS t,aI i,.lst false (ks.map cNd),aI q,lBB J,u8 lp]:=by unfold vd;rw[yw];rfl
 have a5:eNd (.mk op t i ks q) = .agg [aI op,aS t,aI i,.lst false (ks.map cNd),aI q]:=by rw[eNd,yw];rfl
 rw[a4];generalize hn:Nd.mk op t i ks q=n at *
 have wn:WK (.agg [aI op,aS t,aI i,.lst false (ks.map cNd),aI q]) (eNd n):=by rw[<-a5];exact .hf (ze n)
 have p:WK (.agg [.lst false (ts.sorts.map uF),.lst false (ts.fields.map jo),lPd ts.preds,lFa ts.facts]) (eTS ts) := .hf (zq ts);have I:WK (.agg [lI sc.atoms,aI sc.steps]) (eSc sc) := .hf (zA sc);refine qSV call25 func25 rfl ?_;simp[go_sem];refine qm.intro (by kernel_rfl) ?_;simp[go_sem];refine qd.pure (qe8 ts) (.cons p .nil) ?_;cases h1:yb ts with
 |false =>
  rw[h1]at o;replace o:false=R:=o;subst o;simp[go_sem];exact uZ _
 |true =>
 have S:=mJ h1 hs;rw[h1,Bool.true_and]at o C;simp[go_sem];refine qd.pure (qfS ts sc) (.cons p (.cons I .nil)) ?_;cases h2:yQ ts sc with
 |false =>
  rw[h2]at o;replace o:false=R:=o;subst o;simp[go_sem];exact uZ _
 |true =>
 have F:=Vg h2;rw[h2,Bool.true_and]at o C;simp[go_sem];refine qd.pure (kS sc F.g) (.cons I .nil) ?_;by_cases h3:sumI sc.atoms<=5
 case neg =>
  have T:5<sumI sc.atoms:=by omega
  rw[decide_eq_false h3]at o;replace o:false=R:=o;subst o;simp[go_sem,T];exact uZ _
 have T:¬ 5<sumI sc.atoms:=by omega
 rw[decide_eq_true h3,Bool.true_and]at o C;simp[go_sem,T];refine qd.pure (Wi n) (.cons wn .nil) ?_;cases h4:zb n with
 |false =>
  rw[h4]at o;replace o:false=R:=o;subst o;simp[go_sem];exact uZ _
 |true =>
 rw[h4,Bool.true_and]at o C;simp[go_sem];refine qd.pure S.chk (.cons p .nil) ?_;by_cases h5:yZ ts=[]
 case neg =>
  have U:0<(yZ ts).length:=VR.2 h5;rw[decide_eq_false h5]at o;replace o:false=R:=o;subst o;simp[go_sem,U];exact uZ _
 have U:(yZ ts).length=0:=by rw[h5];rfl
 rw[decide_eq_true h5,Bool.true_and]at o C;simp[go_sem,U];refine qd.pure (S.chkF h4) (.cons p (.cons (WK.lst fun r hr=>absurd hr qI) (.cons wn .nil))) ?_;by_cases h6:yg ts [] n=(0,0)
 case neg =>
  rw[decide_eq_false h6]at o;replace o:false=R:=o;subst o;generalize yg ts [] n=D at *
  obtain⟨d1,d2⟩:=D;by_cases g1:d1=0
  .have g2:¬d2=0:=fun e=>h6 (by rw[g1,e])
   simp[go_sem,g1,g2];exact uZ _
  .simp [go_sem,g1]
   exact uZ _
 rw[decide_eq_true h6,Bool.true_and]at o C;rw[h6];simp[go_sem];have a1:=F.g.sum sc.atoms.length;rw[q8]at a1;have a7:=F.s1;have a8:=F.s4;refine qd.pure (kS sc F.g) (.cons I .nil) ?_;simp[go_sem];refine qd.pure (qkP S h5 (sumI sc.atoms) sc.steps (by omega) (by omega) h4) (.cons p (.cons (.hf (HF.sc _)) (.cons (.hf (HF.sc _)) (.cons wn .nil)))) ?_;cases h7:XD ts (sumI sc.atoms) sc.steps n with
 |false =>
  rw[h7]at o;replace o:false=R:=o;subst o;simp[go_sem];exact uZ _
 |true =>
 rw[h7,Bool.true_and]at o C;simp[go_sem];have hB:=gg ts sc raw fun f hf=>Wv _ _ _
 have a9:(zE ts sc raw).length=ts.fields.length:=uT ts sc raw;have aa:=F.nf;have a2:∀ x,x∈zE ts sc raw->x.up.ts.length<=1000/\x.lo.ts.length<=1000/\sorted x.lo.ts:=fun x C=>by
  obtain⟨j,hj,rfl⟩:=Zu C;have h2:j<ts.fields.length:=by omega
  have h:=full5 F h3 (qy h2);obtain⟨s1,s2⟩:=hB.so _ C;have h4:=WJ s2 (hB.full j hj h2);have h5:=WJ s1 (hB.sub _ C);exact⟨by omega,by omega,s1⟩
 have a0:∀ x,x∈zE ts sc raw->w7 x:=fun x C=>by
  obtain⟨a,b,c⟩:=a2 x C;exact⟨by omega,by omega,c.imp fun h=>by omega⟩
 have a6:(qE (zE ts sc raw) 0).length<=100000:=by
  have:=mL 1000 (zE ts sc raw) 0 fun x C=>(a2 x C).1
  omega
 have cM:=qk2 ts sc F raw hr;have cC:=mM ts sc (zE ts sc raw) sc.steps.toNat (by omega) (by omega) (by omega) a0 (by omega) a6;refine qd.pure cM (.cons p (.cons I (.cons (.hf (mN raw)) .nil))) ?_;simp[go_sem];refine qd.pure cC (.cons p (.cons I (.cons (.hf (j6 _)) .nil))) ?_;by_cases h8:(chs (vsT ts) (qE (zE ts sc raw) 0) sc.steps.toNat).length<=8
 case neg =>
  have P:(8:Int)<(chs (vsT ts) (qE (zE ts sc raw) 0) sc.steps.toNat).length:=by omega
  rw[decide_eq_false h8]at o;subst o
  try simp only[qX,Int.natCast_add]at P
  simp[go_sem,P];exact uZ _
 have P:¬(8:Int)<(chs (vsT ts) (qE (zE ts sc raw) 0) sc.steps.toNat).length:=by omega
 rw[decide_eq_true h8]at o;subst o
 try simp only[qX,Int.natCast_add]at P
 simp[go_sem,P];refine qm.intro (by kernel_rfl) ?_;simp[go_sem];refine qd.pure (Wz ts sc F) (.cons p (.cons I .nil)) ?_;simp[go_sem];refine qd.pure (anyB ts sc F (defB ts sc) (by simp[defB]) (fun b hb=>(py F h3 b hb).2.2) J lp a3) (.cons p (.cons I (.cons (.hf (j6 _)) (.cons (.hf (WC _)) (.cons (.hf (HF.sc _)) .nil))))) ?_;simp[go_sem];exact .hf _ (qk3 _ _)
end I5
namespace IM
open P1 E3 HI ID IK
variable {ts:TS} {sc:Sc} {b:List Bd} {N:Nat}
theorem qk5(X:Cx ts sc b N){m:Md}(h:m∈LL ts sc b N):cntB b m=true:=by
 have g:=X.betw h;exact(qkQ X.B X.B g).2 fun k f i hf j=>by
  obtain⟨p,r,l,o⟩:=g.rel k f i hf j;exact⟨l,o⟩
end IM
set_option maxHeartbeats 1000000
open Go renaming Program->qb,Code->j3,World->qh,Value->zS
namespace W42
open Y1 YF P1 E3 E4 F1 GF GH GP GS GU GV GX GY HE IB IJ IL IM I1 I5 W41 JH
theorem qk6(ts:TS)(sc:Sc)(raw:List (List Int))(n:Nd)(g:List (List Bool))(lp:Int):HF (.agg (vd ts sc raw n g lp)):=HF.agg fun c i=>by
 unfold vd at i;simp only[qG,qw,qI,or_false]at i;rcases i with h | (rfl|rfl|rfl)|h|rfl|rfl
 .exact JV ts c (by simpa[cTS] using h)
 .exact zi _
 .exact HF.sc _
 .exact mN raw
 .exact wW n c h
 .exact WC _
 .exact HF.sc _
theorem qk7(ts:TS)(hs:bigT ts)(sc:Sc)(raw:List (List Int))(hr:∀ l,l∈raw->∀ x,x∈l->0<=x/\x<=255)(n:Nd)(g:List (List Bool))(lp:Int)(U:0<=lp/\lp<=255) :
  qe qc 9 [.agg (vd ts sc raw n g lp)] (aB true):=by
 have o:=qk4 ts hs sc raw hr n g lp U;have hx:=fun h=>mO (ts:=ts) hs (sc:=sc) (raw:=raw) (n:=n) h
 obtain⟨op,t,i,ks,q⟩:=n;have r:vd ts sc raw (.mk op t i ks q) g lp=[.lst false (ts.sorts.map uF),.lst false (ts.fields.map jo),lPd ts.preds,lFa ts.facts,lI sc.atoms,aI sc.steps,lRaw raw,aI op,aS t,aI i,.lst false (ks.map cNd),aI q,lBB g,u8 lp]:=by unfold vd;rw[yw];rfl
 have a7:eNd (.mk op t i ks q) = .agg [aI op,aS t,aI i,.lst false (ks.map cNd),aI q]:=by rw[eNd,yw];rfl
 have wc:WK (.agg (vd ts sc raw (.mk op t i ks q) g lp)) (.agg (vd ts sc raw (.mk op t i ks q) g lp)) := .hf (qk6 ts sc raw _ g lp);rw[r]at wc⊢;rw[r]at o;generalize hn:Nd.mk op t i ks q=n at *
 have wn:WK (.agg [aI op,aS t,aI i,.lst false (ks.map cNd),aI q]) (eNd n):=by rw[<-a7];exact .hf (ze n)
 have I:WK (.agg [.lst false (ts.sorts.map uF),.lst false (ts.fields.map jo),lPd ts.preds,lFa ts.facts]) (eTS ts) := .hf (zq ts);have a0:WK (.agg [lI sc.atoms,aI sc.steps]) (eSc sc) := .hf (zA sc);refine qSV call9 func9 rfl ?_;simp[go_sem];refine qd.pure headB .nil ?_;simp[go_sem];refine qd.pure o (.cons wc .nil) ?_;cases a8:ok25 ts sc raw n with
 |false =>
  simp[go_sem,tupM];exact .hf _ (HF.sc _)
 |true =>
 simp only[tupM,reduceIte];obtain⟨X,ab,ad⟩:=hx a8;generalize hb:zE ts sc raw=b at *
 generalize hN:sc.steps.toNat=N at *
 have a1:=X.hS;have wb:WK (lBd b) (lBd b) := .hf (j6 b);have a2:∀ m,m∈LL ts sc b N->tiny m:=fun m J=>X.tiny (X.betw J)
 have a9:=X.len;have cC:=mM ts sc b N X.hS X.N4 (by have:=X.bl;omega) X.okf (by rw[X.B.len];exact qs _) X.fl;have cA:=anyB ts sc X.F b X.B.len (fun x hx=>by obtain⟨h1,h2,h3,h4⟩:=X.bts x hx;exact⟨by omega,by omega,h4⟩) g lp U;have cH:=has25 (LL ts sc b N) (anyM sc (vsT ts) b g (lp % sc.steps)) (by omega) a2;rw[decide_eq_true (qkR X g lp U.1)]at cH;have hI:=X.inst;have a5:(LL ts sc b N).length=N*2 ^ (chs (vsT ts) (qE b 0) N).length:=qf4 sc (vsT ts) b (chs (vsT ts) (qE b 0) N) N;have hv:∀ m,m∈LL ts sc b N->qe qc 40 [eTS ts,eMd m] (aB true):=fun m J=>qgL ts m (X.mdv J)
 have r:∀ m,m∈LL ts sc b N->qe qc 34 [lBd b,eMd m] (aB true):=fun m J=>by
  have:=X.cnt (c:=b) X.bl (fun x hx=>by obtain⟨h1,h2,_,_⟩:=X.bts x hx;exact⟨h1,h2⟩) J
  rwa[qk5 X J]at this
 have c9:=X.c9;have N4:=X.N4;generalize hL:LL ts sc b N=L at *
 generalize chs (vsT ts) (qE b 0) N=C at *
 simp[go_sem];refine qd.pure hI (.cons I (.cons a0 (.cons wb .nil))) ?_;simp[go_sem];refine qd.pure cC (.cons I (.cons a0 (.cons wb .nil))) ?_;simp[go_sem,a1];have p9:∀ k:Nat,k<=C.length->N*2 ^ k<=4*512:=fun k hk=>Nat.mul_le_mul N4 (Nat.pow_le_pow_right (n:=2) (by omega) (by omega:k<=9))
 refine qk.upK C.length (fun k st=>st.tm 1 = .ip [.lst false (ts.sorts.map uF),.lst false (ts.fields.map jo),lPd ts.preds,lFa ts.facts,lI sc.atoms,aI sc.steps,lRaw raw,aI op,aS t,aI i,.lst false (ks.map cNd),aI q,lBB g,u8 lp]/\st.tm 3=aB true/\st.tm 4=lBd b/\st.tm 7=lMd L/\st.tm 8=aI 0/\st.tm 9=aI ((N*2 ^ k:Nat):Int)/\st.tm 10=aI C.length/\st.tm 11=aI k) ?_ ?_
 .exact ⟨by simp[go_sem,a1],by simp[go_sem],by simp[go_sem],by simp[go_sem],by simp[go_sem],by simp[go_sem,a1],by simp[go_sem],by simp[go_sem]⟩
 rintro k st hk ⟨e1,e3,e4,P,e8,e9,R,a3⟩;by_cases j:k<C.length
 .have w1:qi.wrap ((k:Int)+1)=(k:Int)+1:=qg (by omega) (by omega)
  have hp:=p9 (k+1) (by omega);have a6:N*2 ^ (k+1)=2*(N*2 ^ k):=by rw[Nat.pow_succ,<-Nat.mul_assoc,Nat.mul_comm]
  generalize hT:N*2 ^ k=T at *
  have w2:qi.wrap (2*(T:Int))=2*(T:Int):=qg (by omega) (by omega);have aa:(N:Int)*2 ^ (k+1)=2*(T:Int):=by have:=congrArg (fun x:Nat=>(x:Int)) a6;simpa using this
  simp[go_sem,e9,R,a3,j,w1,w2]
  try refine⟨j,Keep.mk' ?_⟩
  try refine Keep.mk' ?_
  exact⟨by simp[go_sem,e1],by simp[go_sem,e3],by simp[go_sem,e4],by simp[go_sem,P],by simp[go_sem,e8],by first | (rw[aa];simp[go_sem]) | (rw[a6];simp[go_sem]),by simp[go_sem,R],by simp[go_sem]⟩
 have a4:k=C.length:=by omega
 subst a4;rw[<-a5]at e9;simp[go_sem,R,a3];refine qk.upK L.length (fun k st=>st.tm 1 = .ip [.lst false (ts.sorts.map uF),.lst false (ts.fields.map jo),lPd ts.preds,lFa ts.facts,lI sc.atoms,aI sc.steps,lRaw raw,aI op,aS t,aI i,.lst false (ks.map cNd),aI q,lBB g,u8 lp]/\st.tm 3=aB true/\st.tm 4=lBd b/\st.tm 7=lMd L/\st.tm 8=aI 0/\st.tm 9=aI L.length/\st.tm 12=aI k) ?_ ?_
 .exact ⟨by simp[go_sem,e1],by simp[go_sem,e3],by simp[go_sem,e4],by simp[go_sem,P],by simp[go_sem,e8],by simp[go_sem,e9],by simp[go_sem]⟩
 clear e1 e3 e4 P e8 e9 R a3;rintro k st hk ⟨e1,e3,e4,P,e8,e9,p⟩;by_cases j:k<L.length
 .have w1:qi.wrap ((k:Int)+1)=(k:Int)+1:=qg (by omega) (by omega)
  have J:=qy j;simp[go_sem,P,p,j];refine qm.intro (by kernel_rfl) ?_;simp[go_sem,e1,P,p,j];refine qd.pure (hv _ J) (.cons I (.cons (.hf (Qz _)) .nil)) ?_;simp[go_sem,e4,P,p,j];refine qd.pure (r _ J) (.cons wb (.cons (.hf (Qz _)) .nil)) ?_;simp[go_sem,p,j,w1]
  try refine⟨j,Keep.mk' ?_⟩
  try refine Keep.mk' ?_
  exact⟨by simp[go_sem,e1],by simp[go_sem,e3],by simp[go_sem,e4],by simp[go_sem,P],by simp[go_sem,e8],by simp[go_sem,e9],by simp[go_sem]⟩
 have a4:k=L.length:=by omega
 simp[go_sem,e1,e3,e4,P,e8,e9,p,a4];refine qd.pure cA (.cons I (.cons a0 (.cons wb (.cons (.hf (WC _)) (.cons (.hf (HF.sc _)) .nil))))) ?_;simp[go_sem];refine qd.pure cH (.cons (.hf (qgA _)) (.cons (.hf (Qz _)) .nil)) ?_;simp[go_sem];exact .hf _ (HF.sc _)
end W42
namespace DL
open Go.EvW Go.RowKit Go.ChangeShapes Go.WideShapes
theorem own:ownKnob qc.godebug=none:=by kernel_rfl
theorem laid:laidOutB qc=true:=by kernel_rfl
abbrev tabL : List (String × DataW Unit) := [("math/bits.deBruijn32tab", Rows.laid_math_bits_deBruijn32tab), ("math/bits.deBruijn64tab", Rows.laid_math_bits_deBruijn64tab), ("internal/strconv.uint64pow10", Rows.laid_internal_strconv_uint64pow10)]
def pows:List Int:=[1,10,100,1000,10000,100000,1000000,10000000,100000000,1000000000,10000000000,100000000000,1000000000000,10000000000000,100000000000000,1000000000000000,10000000000000000,100000000000000000,1000000000000000000,10000000000000000000]
theorem gPow : qc.globalNamed "internal/strconv.uint64pow10" = some 0 := by kernel_rfl
theorem tPow:(qc.globals[0]?).map (·.type)=some 412:=by kernel_rfl
theorem uPow:qc.underlying 412=some (.array 20 359):=by kernel_rfl
theorem uU64:qc.underlying 359=some (.int .u64):=by kernel_rfl
theorem qk8{W:qh}(h:laidMetH qc tabL W):wC (·<W.heap.size) W.heap:=by
  rw[MakeChecks.laidMetH_plain _ _ _ (by kernel_rfl)]at h;obtain⟨ps,I,_⟩:=h
  obtain ⟨g, t, l, r, p, J, P, R, T⟩ := gP I ("internal/strconv.uint64pow10", Rows.laid_internal_strconv_uint64pow10) (by simp)
  obtain rfl:=Option.some.inj (gPow.symm.trans J);obtain rfl:=Option.some.inj (tPow.symm.trans P);have U:l.toList=pows.map fun i => .int .u64 i:=qhE uPow uU64 (by kernel_rfl) (by kernel_rfl) (ns:=pows) T
  obtain⟨e,fr,C⟩:=qhF gPow R;intro x j;have j:x∈[(0,pows.map fun i=>Value.int .u64 i)]:=j;rw[qN]at j;subst j;refine⟨(Array.getElem?_eq_some_iff.1 C).1,e,fr,?_⟩;show W.heap[0]?=_;rw[C];have:l=(pows.map fun i=>Value.int .u64 i).toArray:=by rw[<-U]
  rw[this]
theorem qk9(os:Os)(args:Array zS):laidMetH qc tabL ((World.doorLaid qc 4000 os).forCall (fun _ _=>0) ⟨#[],args,[]⟩).memory:=
 laidMetH_of_parts3 (fuel:=8) (laidMet_of_run' 8 (by kernel_rfl) (by kernel_rfl)) (by kernel_rfl) (by kernel_rfl)
end DL
namespace DM
open Go.EvW E3 DT
instance:Inhabited Rl:=⟨⟨0,[]⟩⟩
instance:Inhabited Sc:=⟨⟨[],0⟩⟩
instance:Inhabited Md:=⟨⟨default,[],0⟩⟩
theorem shRel(N:Nat):ShU qc N 104 cRel (fun _=>True):=
 ((ShU.struct (fs:=[(3,0),(28,1)]) (by kernel_rfl) (.cons' (o':=1) (by kernel_rfl) (Qb N) (.cons' (o':=2) (by kernel_rfl) (WX N) (.nil 2))) (by kernel_rfl)).map
  (fun x=>(⟨x.1,x.2.1⟩:Rl)) (fun _=>rfl) (fun x h=>trivial)).le (by omega)
theorem qlA(N:Nat):ShU qc N 30 (fun s:Sc=>[lI s.atoms,aI s.steps]) (fun _=>True):=
 ((ShU.struct (fs:=[(28,0),(3,1)]) (by kernel_rfl) (.cons' (o':=1) (by kernel_rfl) (WX N) (.cons' (o':=2) (by kernel_rfl) (Qb N) (.nil 2))) (by kernel_rfl)).map
  (fun x=>(⟨x.1,x.2.1⟩:Sc)) (fun _=>rfl) (fun x h=>trivial)).le (by omega)
end DM
namespace DN
open Go.EvW P1 Y1 EO DT GS W41
theorem qlB:qc.underlying 89=some (.slice 4):=by kernel_rfl
theorem unBB:qc.underlying 51=some (.slice 89):=by kernel_rfl
theorem unU8s:qc.underlying 158=some (.slice 5):=by kernel_rfl
theorem unRaw:qc.underlying 50=some (.slice 158):=by kernel_rfl
theorem qlC(N:Nat):ShU qc N 89 (fun l:List Bool=>[lB l]) (fun _=>True):=
 ((ShU.slice qlB (WW N) (fun _ _=>by kernel_rfl) (Nat.lt_of_lt_of_eq Nat.zero_lt_one (by kernel_rfl)) (by kernel_rfl)).le (by omega)).map (fun l=>l) (fun _=>rfl) fun _ _=>trivial
theorem shBB(N:Nat):ShU qc N 51 (fun l:List (List Bool)=>[lBB l]) (fun _=>True):=
 ((ShU.slice unBB (qlC N) (fun _ _=>by kernel_rfl) (Nat.lt_of_lt_of_eq Nat.zero_lt_one (by kernel_rfl)) (by kernel_rfl)).le (by omega)).map (fun l=>l) (fun _=>rfl) fun _ _=>trivial
abbrev VP:=TS×Sc×List (List Int)×Nd×List (List Bool)×Int
abbrev cCs(x:VP):List AV:=vd x.1 x.2.1 x.2.2.1 x.2.2.2.1 x.2.2.2.2.1 x.2.2.2.2.2
end DN
namespace DO
open Go.EvW DT DM DN W41
def mP(l:List Int):Prop:=∀ x,x∈l->0<=x/\x<=255
def mQ(r:List (List Int)):Prop:=∀ l,l∈r->mP l
theorem shU8r(N:Nat):ShU qc N 158 (fun l:List Int=>[.lst false (l.map fun x=>[u8 x])]) mP:=
 ((ShU.slice unU8s (shU8 N) (fun _ _=>by kernel_rfl) (Nat.lt_of_lt_of_eq Nat.zero_lt_one (by kernel_rfl)) (by kernel_rfl)).le (by omega)).map (fun l=>l) (fun _=>rfl) fun _ h=>h.2
theorem qlD(N:Nat):ShU qc N 50 (fun l:List (List Int)=>[lRaw l]) mQ:=
 ((ShU.slice unRaw (shU8r N) (fun _ _=>by kernel_rfl) (Nat.lt_of_lt_of_eq Nat.zero_lt_one (by kernel_rfl)) (by kernel_rfl)).le (by omega)).map (fun l=>l) (fun _=>rfl) fun _ h=>h.2
def okCs(x:VP):Prop:=okTA x.1/\mQ x.2.2.1/\(0<=x.2.2.2.2.2/\x.2.2.2.2.2<=255)
theorem qlE(N:Nat):ShU qc N 53 cCs okCs:=
 ((ShU.struct (fs:=[(27,0),(30,4),(50,6),(36,7),(51,12),(5,13)]) (by kernel_rfl)
  (.cons' (o':=4) (by kernel_rfl) (qhU N) (.cons' (o':=6) (by kernel_rfl) (qlA N) (.cons' (o':=7) (by kernel_rfl) (qlD N) (.cons' (o':=12) (by kernel_rfl) (Vt N) (.cons' (o':=13) (by kernel_rfl) (shBB N) (.cons' (o':=14) (by kernel_rfl) (shU8 N) (.nil 14))))))) (by kernel_rfl)).map
  (fun x=>((x.1,x.2.1,x.2.2.1,x.2.2.2.1,x.2.2.2.2.1,x.2.2.2.2.2.1):VP)) (fun x=>by simp[cCs,vd]) (fun x h=>⟨h.1,h.2.2.1,h.2.2.2.2.2.1⟩)).le (by omega)
theorem qlF:Yr qc 53 (fun x => .agg (cCs x)) okCs:=Yr.struct (by kernel_rfl) qlE
end DO
end Go.Proofs.YtpagnklaanbmbaaGreatDoor
