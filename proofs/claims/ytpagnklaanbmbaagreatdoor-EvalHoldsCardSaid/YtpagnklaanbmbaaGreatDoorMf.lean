/-
  Own library, part 6: an abstract reading of values and a calculus over it; contracts of functions; plain lemmas.
-/
import Derived.Lib.ItoaLen
import Derived.Handed
import Derived.WideKeyArgs
import Derived.ProofKit
import Derived.OpenShut
import Derived.JoinedCond
import Derived.KernelRfl
import Derived.Test.YtpagnklaanbmbaaGreatDoorMe
set_option linter.unusedVariables false
set_option linter.unusedSimpArgs false
set_option maxRecDepth 100000
open Go renaming FuncId->wh,Program->j1,TypeId->j2,World->j3,Value->uk,undef->xa
open Go.Proofs.Tryz renaming prog->qb
open Nat renaming le_of_ble_eq_true->qh,le_refl->qm,le_trans->zP,zero_add->yy
open Go.IntKind renaming i64->qj
open List renaming getElem?_eq_some_iff->qk,getElem?_append_left->qo,mem_map->qr,mem_cons->qt,range->qu,getElem?_set_ne->qv,getElem_mem->qy,getElem?_eq_getElem->qA,not_mem_nil->qE,all_eq_true->qI,getElem?_set_self->qJ,mem_singleton->qL,mem_append->qM,mem_of_getElem?->qV,mem_cons_of_mem->qY,replicate->qZ,mem_cons_self->q8,length_append->zc,getElem?_append_right->zf,drop_eq_getElem_cons->zt,getElem?_map->zu,take_length->zw,length_cons->zG,getD_eq_getElem?_getD->zT,append_nil->zV,map_cons->yc,take_of_length_le->ye,drop_length->yk,mem_range->yx,length_map->yI,mem_append_left->jc,getElem?_eq_none->jj,nil_append->jq,getElem?_cons_succ->j7,nodup_cons->vb,foldl_append->ue,take_append_drop->uf,eq_nil_of_length_eq_zero->ug,flatMap_cons->uG,flatten_cons->wt,getElem_map->K6
open Option.some renaming injEq->qp
open Bool renaming and_eq_true->qB,or_eq_true->wr
open Array renaming getD_eq_getD_getElem?->qH
open Option renaming map_some->zd,map_eq_some_iff->j8
open List.Nodup renaming length_le_of_subset->jT
open Int renaming le_refl->j9,tmod_eq_emod_of_nonneg->Qe
namespace Go.Proofs.YtpagnklaanbmbaaGreatDoor
open Go Go.Ev Go.Proofs Tryz
namespace Q6
open Y1 Y9
mutual
def anyN(p:Nd->Bool):Nd->Bool
 | .mk op nm i ks q=>p (.mk op nm i ks q)||vZ p ks
def vZ(p:Nd->Bool):List Nd->Bool
 | []=>false
 |k :: ks=>anyN p k||vZ p ks
end
theorem Uf(p:Nd->Bool)(n:Nd):anyN p n=(p n||vZ p n.kids):=by
 obtain⟨op,nm,i,ks,q⟩:=n;simp[anyN,Nd.kids]
theorem XT:∀(m:Nat) (n:Nd),szN n<=m->Small n->qd qb 22 [eNd n] (aB (anyN (fun n=>decide (n.op=47)) n))
 | 0,n,I,_=>by obtain⟨op,nm,i,ks,p⟩:=n;simp[szN]at I
 |m+1,n,I,J=>by
  have ih:∀ k,k∈n.kids->qd qb 22 [eNd k] (aB (anyN (fun n=>decide (n.op=47)) k)):=fun k r =>
   XT m k (zW1 (zS r)) (J.kid r)
  have P:=J.len;rw[Uf];generalize hR:vZ (fun n=>decide (n.op=47)) n.kids=R;refine qd.of_sound (qe.of_awp call22 func22 rfl (qh zKr) zKr (pl:={}) ?_);by_cases t:n.op=47
  .simp [go_sem,t]
   exact .zsc _
  .rw [decide_eq_false t,Bool.false_or]
   simp[go_sem,t];refine qn.upK n.kids.length (fun k U=>U.tm 1 = .ip (cNd n)/\U.tm 3=aI k/\vZ (fun n=>decide (n.op=47)) (n.kids.drop k)=R) ?_ ?_
   .exact ⟨zSi,zSi,zUs hR⟩
   .rintro k U r ⟨l,o,j⟩
    by_cases C:k=n.kids.length
    .subst C
     rw[yk]at j;simp only[vZ]at j;subst j;simp[go_sem,l,o];exact .zsc _
    .have g:k<n.kids.length:=by omega
     have w1:qj.wrap ((k:Int)+1)=(k:Int)+1:=qi zOm zOm;rw[zt g]at j;simp only[vZ]at j;have hi:=ih n.kids[k] (qy g);simp[go_sem,l,o,g,qw]
     try refine qg.intro zKr ?_
     try simp[go_sem,l,o,g,qw]
     refine qc.pure hi (.zk (qz _) .nil) ?_;cases hq:anyN (fun n=>decide (n.op=47)) n.kids[k] with
     |true =>
      rw[hq,Bool.true_or]at j;subst j;simp[go_sem,l,o];exact .zsc _
     |false =>
      rw[hq,Bool.false_or]at j;simp[go_sem,l,o,w1]
      try refine⟨g,Keep.mk' ?_⟩
      try refine Keep.mk' ?_
      exact⟨zS1 l,zSi,j⟩
end Q6
namespace Q7
open YF P1
def parB(ns:Nat)(l:List (ByteArray×Int)):Bool:=decide (l.length<=8)&&l.all fun p=>decide (0<=p.2)&&decide (p.2<ns)
theorem qjT(ts:TS)(l:List (ByteArray×Int)):qd qb 129 [eTS ts,lPm l] (aB (parB ts.sorts.length l)):=by
 refine qd.of_sound (qe.of_awp call129 func129 rfl (qh zKr) zKr (pl:={}) ?_);by_cases h8:l.length<=8
 case neg =>
  have hp:parB ts.sorts.length l=false:=by simp[parB,h8]
  have o:(8:Int)<l.length:=zOm;rw[hp];simp[go_sem,o];exact .zsc _
 have o:¬(8:Int)<l.length:=zOm;simp[go_sem,o];refine qn.upK l.length (fun k U=>U.tm 1=lPm l/\U.tm 2 = .ip (cTS ts)/\U.tm 5=aI k/\∀ j p,j<k->l[j]?=some p->0<=p.2/\p.2<ts.sorts.length) ?_ ?_
 .exact ⟨zSi,zSi,zSi,fun j p t=>absurd t zOm⟩
 .rintro k U hk ⟨i,I,r,hI⟩
  by_cases J:k=l.length
  .have hp:parB ts.sorts.length l=true:=by
    simp only[parB,qB,decide_eq_true_eq,qI];refine⟨h8,fun p hp=>?_⟩;obtain⟨j,t⟩:=List.mem_iff_getElem?.1 hp;exact hI j p (by have:=(qk.1 t).1;omega) t
   rw[hp];simp[go_sem,i,r,J];exact .zsc _
  .have g:k<l.length:=by omega
   have w1:qj.wrap ((k:Int)+1)=(k:Int)+1:=qi zOm zOm;have hg:l[k]?=some l[k]:=qA g;by_cases hq:0<=l[k].2/\l[k].2<ts.sorts.length
   .have C:¬l[k].2<0:=by omega
    have P:¬(ts.sorts.length:Int)<=l[k].2:=zOm;simp[go_sem,i,r,g];refine qg.intro zKr ?_;simp[go_sem,i,I,r,g,C,P,w1]
    try refine⟨g,Keep.mk' ?_⟩
    try refine Keep.mk' ?_
    refine⟨zS1 i,zS1 I,zSi,fun j p t hp=>?_⟩;by_cases R:j=k
    .subst R;rw[hg]at hp;cases hp;exact hq
    .exact hI j p zOm hp
   .have hp:parB ts.sorts.length l=false:=by
     rw[parB,Bool.and_eq_false_iff];refine .inr (List.all_eq_false.2 ⟨l[k],qy g,?_⟩);simp only[qB,decide_eq_true_eq];exact hq
    rw[hp];by_cases C:l[k].2<0
    .simp [go_sem,i,r,g]
     refine qg.intro zKr ?_;simp[go_sem,i,r,g,C];exact .zsc _
    .have P:(ts.sorts.length:Int)<=l[k].2:=by omega
     simp[go_sem,i,r,g];refine qg.intro zKr ?_;simp[go_sem,i,I,r,g,C,P];exact .zsc _
theorem qjU{ns:Nat}{l:List (ByteArray×Int)}(h:parB ns l=true):l.length<=8/\∀ p,p∈l->0<=p.2/\p.2<ns:=by
 simp only[parB,qB,decide_eq_true_eq,qI]at h;exact⟨h.1,fun p hp=>h.2 p hp⟩
end Q7
namespace Q8
open YF P1 P2 Y1 Y9 Q4 Q7
def limB(ts:TS):Bool:=decide (ts.sorts.length<=4)&&decide (ts.fields.length<=6)&&decide (ts.preds.length<=8)&&decide (ts.facts.length<=16)
def fldB(ns:Nat)(f:Fld):Bool:=decide (1<=f.sorts.length)&&decide (f.sorts.length<=3)&&f.sorts.all fun x=>decide (0<=x)&&decide (x<ns)
def yq(ts:TS):Bool:=limB ts&&(ts.fields.all (fldB ts.sorts.length)&&(ts.preds.all (fun p=>parB ts.sorts.length p.params&&qS p.body)&&ts.facts.all fun f=>qS f.2))
theorem qjV(ts:TS):qd qb 58 [eTS ts] (aB (yq ts)):=by
 refine qd.of_sound (qe.of_awp call58 func58 rfl (qh zKr) zKr (pl:={}) ?_);by_cases h1:ts.sorts.length<=4
 case neg =>
  have hf:yq ts=false:=by simp[yq,limB,h1]
  have P:(4:Int)<ts.sorts.length:=zOm;rw[hf];simp[go_sem,P];exact .zsc _
 have P:¬(4:Int)<ts.sorts.length:=zOm;by_cases h2:ts.fields.length<=6
 case neg =>
  have hf:yq ts=false:=by simp[yq,limB,h2]
  have a0:(6:Int)<ts.fields.length:=zOm;rw[hf];simp[go_sem,P,a0];exact .zsc _
 have a0:¬(6:Int)<ts.fields.length:=zOm;by_cases h3:ts.preds.length<=8
 case neg =>
  have hf:yq ts=false:=by simp[yq,limB,h3]
  have a4:(8:Int)<ts.preds.length:=zOm;rw[hf];simp[go_sem,P,a0,a4];exact .zsc _
 have a4:¬(8:Int)<ts.preds.length:=zOm;by_cases h4:ts.facts.length<=16
 case neg =>
  have hf:yq ts=false:=by simp[yq,limB,h4]
  have a7:(16:Int)<ts.facts.length:=zOm;rw[hf];simp[go_sem,P,a0,a4,a7];exact .zsc _
 have a7:¬(16:Int)<ts.facts.length:=zOm;simp[go_sem,P,a0,a4,a7];have ab:limB ts=true:=by simp[limB,h1,h2,h3,h4]
 generalize R:ts.sorts.length=o at *
 refine qn.upK ts.fields.length (fun k U=>U.tm 1 = .ip (cTS ts)/\U.tm 3=aI k/\∀ j f,j<k->ts.fields[j]?=some f->fldB o f=true) ?_ ?_
 .exact ⟨zSi,zSi,fun j p I=>absurd I zOm⟩
 .rintro k U hk ⟨r,e3,hI⟩
  by_cases J:k=ts.fields.length
  .have ae:ts.fields.all (fldB o)=true:=by
    rw[qI];intro f hf;obtain⟨j,I⟩:=List.mem_iff_getElem?.1 hf;exact hI j f (by have:=(qk.1 I).1;omega) I
   simp[go_sem,r,e3,J];refine qn.upK ts.preds.length (fun k U=>U.tm 1 = .ip (cTS ts)/\U.tm 6=aI k/\∀ j p,j<k->ts.preds[j]?=some p->(parB o p.params&&qS p.body)=true) ?_ ?_
   .exact ⟨zS1 r,zSi,fun j p I=>absurd I zOm⟩
   .clear r e3 hI J hk k U
    rintro k U hk ⟨r,e6,hI⟩;by_cases J:k=ts.preds.length
    .have af:(ts.preds.all fun p=>parB o p.params&&qS p.body)=true:=by
      rw[qI];intro f hf;obtain⟨j,I⟩:=List.mem_iff_getElem?.1 hf;exact hI j f (by have:=(qk.1 I).1;omega) I
     simp[go_sem,r,e6,J];refine qn.upK ts.facts.length (fun k U=>U.tm 1 = .ip (cTS ts)/\U.tm 7=aI k/\∀ j f,j<k->ts.facts[j]?=some f->qS f.2=true) ?_ ?_
     .exact ⟨zS1 r,zSi,fun j p I=>absurd I zOm⟩
     .clear r e6 hI J hk k U
      rintro k U hk ⟨r,e7,hI⟩;by_cases J:k=ts.facts.length
      .have ad:(ts.facts.all fun f=>qS f.2)=true:=by
        rw[qI];intro f hf;obtain⟨j,I⟩:=List.mem_iff_getElem?.1 hf;exact hI j f (by have:=(qk.1 I).1;omega) I
       have ag:yq ts=true:=by
        unfold yq;rw[R,ab,ae,af,ad];rfl
       rw[ag];simp[go_sem,r,e7,J];exact .zsc _
      .have g:k<ts.facts.length:=by omega
       have w1:qj.wrap ((k:Int)+1)=(k:Int)+1:=qi zOm zOm;have hg:ts.facts[k]?=some ts.facts[k]:=qA g;have a1:=XQ ts.facts[k].2;simp[go_sem,r,e7,g]
       try refine qg.intro zKr ?_
       try simp[go_sem,r,e7,g]
       refine qc.pure a1 (.zk (qz _) .nil) ?_;cases a2:qS ts.facts[k].2 with
       |false =>
        have hb:yq ts=false:=by
         have:(ts.facts.all fun f=>qS f.2)=false:=List.all_eq_false.2 ⟨_,qy g,zP1 a2⟩;simp[yq,this]
        rw[hb];simp[go_sem];exact .zsc _
       |true =>
        simp[go_sem,e7,g,w1]
        try refine⟨g,Keep.mk' ?_⟩
        try refine Keep.mk' ?_
        refine⟨zS1 r,zSi,fun i f hi hf=>?_⟩;by_cases a3:i=k
        .subst a3;rw[hg]at hf;cases hf;exact a2
        .exact hI i f zOm hf
    .have g:k<ts.preds.length:=by omega
     have w1:qj.wrap ((k:Int)+1)=(k:Int)+1:=qi zOm zOm;have hg:ts.preds[k]?=some ts.preds[k]:=qA g;have t:(parB o ts.preds[k].params&&qS ts.preds[k].body)=false->yq ts=false:=fun hb=>by
      have:(ts.preds.all fun p=>parB o p.params&&qS p.body)=false:=List.all_eq_false.2 ⟨_,qy g,zP1 hb⟩;simp[yq,R,this]
     have a6:=qjT ts ts.preds[k].params;rw[R]at a6;have a1:=XQ ts.preds[k].body;have ah:WKs [eTS ts,lPm ts.preds[k].params] [eTS ts,lPm ts.preds[k].params] := .zk (zA ts) (.zk (vV _) .nil);simp[go_sem,r,e6,g];refine qg.intro zKr ?_;simp[go_sem,r,e6,g];refine qc.pure a6 ah ?_;cases a8:parB o ts.preds[k].params with
     |false =>
      rw[t (by rw[a8];rfl)];simp[go_sem];exact .zsc _
     |true =>
      simp[go_sem,r,e6,g];refine qc.pure a1 (.zk (qz _) .nil) ?_;cases a2:qS ts.preds[k].body with
      |false =>
       rw[t (by rw[a8,a2];rfl)];simp[go_sem];exact .zsc _
      |true =>
       simp[go_sem,e6,g,w1]
       try refine⟨g,Keep.mk' ?_⟩
       try refine Keep.mk' ?_
       refine⟨zS1 r,zSi,fun i f hi hf=>?_⟩;by_cases a3:i=k
       .subst a3;rw[hg]at hf;cases hf;rw[a8,a2];rfl
       .exact hI i f zOm hf
  .have g:k<ts.fields.length:=by omega
   have hg:ts.fields[k]?=some ts.fields[k]:=qA g;have t:fldB o ts.fields[k]=false->yq ts=false:=fun hb=>by
    have:ts.fields.all (fldB o)=false:=List.all_eq_false.2 ⟨_,qy g,zP1 hb⟩;simp[yq,R,this]
   by_cases c1:1<=ts.fields[k].sorts.length
   case neg =>
    rw[t (by simp[fldB,c1])];have a5:(ts.fields[k].sorts.length:Int)<1:=zOm;simp[go_sem,r,e3,g,a5];exact .zsc _
   have a5:¬(ts.fields[k].sorts.length:Int)<1:=zOm;by_cases c3:ts.fields[k].sorts.length<=3
   case neg =>
    rw[t (by simp[fldB,c3])];have a9:(3:Int)<ts.fields[k].sorts.length:=zOm;simp[go_sem,r,e3,g,a5,a9];exact .zsc _
   have a9:¬(3:Int)<ts.fields[k].sorts.length:=zOm;simp[go_sem,r,e3,g,a5,a9];refine qn.upK ts.fields[k].sorts.length (fun j s=>s.tm 1 = .ip (cTS ts)/\s.tm 3=aI k/\s.tm 4=lI ts.fields[k].sorts/\s.tm 5=aI j/\∀ i x,i<j->ts.fields[k].sorts[i]?=some x->0<=x/\x<o) ?_ ?_
   .exact ⟨zS1 r,zS1 e3,zSi,zSi,fun i x hi=>absurd hi zOm⟩
   .rintro j s I ⟨f1,f3,f4,f5,hJ⟩
    generalize hl:ts.fields[k].sorts=l at *
    by_cases ai:j=l.length
    .have w1:qj.wrap ((k:Int)+1)=(k:Int)+1:=qi zOm zOm
     have aa:fldB o ts.fields[k]=true:=by
      simp only[fldB,hl,qB,decide_eq_true_eq,qI];refine⟨⟨c1,c3⟩,fun x hx=>?_⟩;obtain⟨i,hi⟩:=List.mem_iff_getElem?.1 hx;exact hJ i x (by have:=(qk.1 hi).1;omega) hi
     simp[go_sem,f3,f4,f5,ai,w1]
     try refine⟨g,Keep.mk' ?_⟩
     try refine Keep.mk' ?_
     refine⟨zS1 f1,zSi,fun i f hi hf=>?_⟩;by_cases a3:i=k
     .subst a3;rw[hg]at hf;cases hf;exact aa
     .exact hI i f zOm hf
    .have C:j<l.length:=by omega
     have w1:qj.wrap ((j:Int)+1)=(j:Int)+1:=qi zOm zOm;have aj:l[j]?=some l[j]:=qA C;by_cases hq:0<=l[j]/\l[j]<o
     .have q1:¬l[j]<0:=by omega
      have q2:¬(o:Int)<=l[j]:=zOm;simp[go_sem,f4,f5,C];refine qg.intro zKr ?_;simp[go_sem,f1,f4,f5,C,q1,q2,w1,R]
      try refine⟨C,Keep.mk' ?_⟩
      try refine Keep.mk' ?_
      refine⟨zS1 f1,zS1 f3,zS1 f4,zSi,fun i x hi hx=>?_⟩;by_cases ak:i=j
      .subst ak;rw[aj]at hx;cases hx;exact hq
      .exact hJ i x zOm hx
     .rw [t (by
       rw[fldB,hl,Bool.and_eq_false_iff];refine .inr (List.all_eq_false.2 ⟨l[j],qy C,?_⟩);simp only[qB,decide_eq_true_eq];exact hq)]
      by_cases q1:l[j]<0
      .simp [go_sem,f4,f5,C]
       refine qg.intro zKr ?_;simp[go_sem,f4,f5,C,q1];exact .zsc _
      .have q2:(o:Int)<=l[j]:=by omega
       simp[go_sem,f4,f5,C];refine qg.intro zKr ?_;simp[go_sem,f1,f4,f5,C,q1,q2,R];exact .zsc _
theorem XU{ts:TS}(h:yq ts=true)(i:∀ x,x∈ts.sorts->x.1.size<=4611686018427387904):okTS ts/\(∀ p,p∈ts.preds->WfN p.body)/\∀ f,f∈ts.facts->WfN f.2:=by
 simp only[yq,limB,fldB,qB,decide_eq_true_eq,qI]at h;obtain⟨⟨⟨⟨j,l⟩,o⟩,r⟩,hf,hp,t⟩:=h;refine⟨⟨j,l,o,r,i,fun f g=>?_,fun p g=>?_⟩,fun p g=>yE (hp p g).2,fun f g=>yE (t f g)⟩
 .obtain ⟨⟨a,b⟩,c⟩:=hf f g
  exact⟨a,b,fun x hx=>c x hx⟩
 .exact qjU (hp p g).1
end Q8
namespace FD
open Y1 Y9 P1 E1 E2 E3 E9 Q4 F2
theorem qjW{ks:List Nd}{m:Nat}(h:∀ k,k∈ks->dN k<=m):dNs ks<=m:=by
 induction ks with
 |nil=>simp[dNs]
 |cons a l g =>
  simp only[dNs];have:=h a zSp;have:=g fun k i=>h k (zP1 i)
  omega
theorem n4:∀(m:Nat) (n:Nd) (g:Int),szN n<=m->forN n g=true->(dN n:Int)<=g
 | 0,n,g,l,_=>by
  obtain⟨op,nm,i,ks,q⟩:=n;simp only[szN,Nd.mk.sizeOf_spec]at l;omega
 |m+1,n,g,l,h=>by
  rw[Jx]at h;split at h
  .cases h
  .simp only[qB]at h
   have o:=XS h.2.2;have:dNs n.kids<=(g-1).toNat:=qjW fun k j=>by
    have:=n4 m k (g-1) (zW1 (zS j)) (o k j);omega
   rw[ny];omega
theorem w6{n:Nd}(h:qS n=true):dN n<=24:=by
 simp only[qS,qB]at h;have:=n4 (szN n) n 24 (qm _) h.2;omega
theorem XV{n:Int}{r:Rl}(h:jN n r=true):GR n r:=by
 simp only[jN,qB,decide_eq_true_eq,qI]at h;exact⟨h.1.1.1.2,h.1.1.2,h.1.2,h.2⟩
theorem XW:∀ x:List Int,(∀ a,a∈x->0<=a)->0<=sumI x:=fun x hx=>by
 induction x with
 |nil=>simp[sumI]
 |cons a x g =>
  have l:=hx a zSp;have i:=g fun b j=>hx b (zP1 j)
  simp only[sumI,List.foldr_cons]at i⊢;omega
theorem qjX:∀(l:List Int) (i:Nat),(∀ a,a∈l->0<=a)->i<l.length->0<=gI l i/\0<=sumI (l.take i)/\sumI (l.take i)+gI l i<=sumI l:=fun l i h g=>by
 have e:sumI l=sumI (l.take (i+1))+sumI (l.drop (i+1)):=by rw[<-pM,uf]
 rw[Zs l i g]at e;rw[Zr g];have p:=XW (l.drop (i+1)) fun a j=>h a (List.mem_of_mem_drop j)
 have o:=XW (l.take i) fun a j=>h a (List.mem_of_mem_take j)
 exact⟨h _ (qy g),o,zOm⟩
theorem qjY{ts:TS}{m:Md}(h:okTS ts)(v:MVal (spOf ts) m):OkMa ⟨ts,m⟩ m.states.length:=by
 have g:=v.sc;have hg:=XI g;simp only[vp,qB,decide_eq_true_eq,qI]at g;obtain⟨⟨⟨⟨⟨o,h2⟩,h3⟩,h4⟩,h5⟩,C⟩:=g;have I:=v.ns;have J:=v.l0;have P:=v.l1;refine { len:=rfl,nx:=?_,n0:=?_,n12:=C,st:=?_,at0:=?_,gsc:=hg,pos:=fun a j=>(hg.2 a j).1,al:=o,loop:=v.l0,N1:=zOm,ts:=h }
 .intro t ht
  show (if t+1<m.states.length then t+1 else m.loop.toNat)<m.states.length;split<;>omega
 .have:=XW m.sc.atoms fun a j=>(hg.2 a j).1
  exact this
 .intro s g
  have p:=v.len s g;have hd:m.states.getD s []=m.states[s]:=by rw[zT,qA g];rfl
  show (m.states.getD s []).length=ts.fields.length/\∀ r,r∈m.states.getD s []->GR (sumI m.sc.atoms) r;rw[hd];refine⟨p,fun r hr=>?_⟩;obtain⟨i,l,rfl⟩:=List.getElem_of_mem hr;exact XV (v.cell s i g (by rw[<-p];exact l)).2.1
 .intro i l
  exact qjX m.sc.atoms i (fun a j=>(hg.2 a j).1) (by show i<m.sc.atoms.length;rw[o];exact l)
end FD
namespace Q9
open Y1
def n6(nm:ByteArray)(p:Int):Nd := .mk 1 nm 0 [] p
end Q9
namespace PA
open P1 P2 Y1 Y2 Y9 Y15 Y16 Q6
section
variable {inn:Bool}{c c':Ck}{s s':Scp}
def wc(nm:ByteArray)(n:Nd):Prop:=anyN (fun n=>decide (n.name=nm)) n=true
theorem n7{p:Nd->Bool}:∀{ks:List Nd},vZ p ks=true↔∃ k,k∈ks/\anyN p k=true
 | []=>by simp[vZ]
 |k :: ks=>by
  simp only[vZ,wr,n7 (ks:=ks),qt];constructor
  .rintro (h|⟨x,hx,h⟩)
   .exact ⟨k,.inl rfl,h⟩
   .exact ⟨x,.inr hx,h⟩
  .rintro ⟨x,rfl|hx,h⟩
   .exact .inl h
   .exact .inr ⟨x,hx,h⟩
theorem qjZ(n:Nd):wc n.name n:=by
 unfold wc;rw[Uf];simp
theorem qj0{n k:Nd}{nm:ByteArray}(g:k∈n.kids)(h:wc nm k):wc nm n:=by
 unfold wc at h⊢;rw[Uf,wr];exact .inr (n7.2 ⟨k,g,h⟩)
def lookS(nm:ByteArray)(s:Scp):Option Kd:=(y8 nm s).head?.map Prod.snd
theorem qj1(nm:ByteArray):lookS nm []=none:=rfl
theorem vJ(nm:ByteArray)(v:ByteArray×Kd)(s:Scp):lookS nm (v :: s)=if v.1=nm then some v.2 else lookS nm s:=by
 unfold lookS;rw[y8];split<;>rfl
theorem w7(c:Ck)(s:Scp)(nm:ByteArray)(pos:Int):jg c s nm pos=match lookS nm s with
  |some k => .ok (some k)
  |none=>match means c.ts nm with
   | [] => .error (40,pos)
   | [k] => .ok (some k)
   |_ => .error (44,pos):=by
 unfold jg lookS;cases y8 nm s with
 |nil=>rfl
 |cons v r=>rfl
theorem n8{n n':Nd}(j:n'.op=n.op)(l:n'.name=n.name)(r:n'.n=n.n)(hp:n'.pos=n.pos)
  (t:zL c' n.op n.name=zL c n.op n.name) (C:n.op=1->jg c s n.name n.pos=jg c' s' n.name n.pos) (o:c'.ts.preds=c.ts.preds) (g:zn c' n.name=zn c n.name)
  (p:c'.ts.sorts.length=c.ts.sorts.length) (i:n'.kids.length=n.kids.length)
  (hA:n.op=47->∀ ps,zN c s n.pos ps n.kids=zN c' s' n.pos ps n'.kids)
  (hB:(n.op=15\/n.op=45\/n.op=46)->∀ inn,z8 c s inn n.name n.pos n.kids=z8 c' s' inn n.name n.pos n'.kids)
  (I:¬n.op=1->¬n.op=47->¬(n.op=15\/n.op=45\/n.op=46)->∀ inn,qQ c s inn n.kids=qQ c' s' inn n'.kids):exam c s inn n=exam c' s' inn n':=by
 rw[yD,yD,j,l,r,hp,t,o,g,p,i];by_cases a:(inn&&zL c n.op n.name)=true
 .rw [if_pos a,if_pos a]
 rw[if_neg a,if_neg a];by_cases b:n.op=1
 .rw [if_pos b,if_pos b];exact C b
 rw[if_neg b,if_neg b];by_cases d:n.op=47
 .rw [if_pos d,if_pos d]
  simp only[hA d]
 rw[if_neg d,if_neg d];by_cases e:n.op=15\/n.op=45\/n.op=46
 .rw [if_pos e,if_pos e];exact hB e _
 rw[if_neg e,if_neg e,I b d e]
theorem n9(f:Nd->Nd):∀{ks:List Nd},(∀ k,k∈ks->exam c s inn k=exam c' s' inn (f k))->qQ c s inn ks=qQ c' s' inn (ks.map f)
 | [],_=>rfl
 |k :: ks,h=>by
  simp only[yc,qQ];rw[h k (q8 ..),n9 f fun g i=>h g (qY _ i)]
theorem mc{pos:Int}(f:Nd->Nd):∀{ks:List Nd} {ps:List (ByteArray×Int)},(∀ k,k∈ks->exam c s true k=exam c' s' true (f k))->zN c s pos ps ks=zN c' s' pos ps (ks.map f)
 | [],ps,_=>by cases ps<;>rfl
 |k :: ks,[],_=>rfl
 |k :: ks,p :: ps,h=>by
  simp only[yc,zN];rw[h k (q8 ..),mc f (ps:=ps) fun g i=>h g (qY _ i)]
theorem Ug{ks:List Nd}(h:∀ k,k∈ks->exam c s inn k=exam c' s' inn k):qQ c s inn ks=qQ c' s' inn ks:=by
 have:=n9 (c:=c) (c':=c') (s:=s) (s':=s') (inn:=inn) id (ks:=ks) h
 rwa[List.map_id]at this
theorem me{pos:Int}{ks:List Nd}{ps:List (ByteArray×Int)}(h:∀ k,k∈ks->exam c s true k=exam c' s' true k):zN c s pos ps ks=zN c' s' pos ps ks:=by
 have:=mc (c:=c) (c':=c') (s:=s) (s':=s') (pos:=pos) id (ks:=ks) (ps:=ps) h
 rwa[List.map_id]at this
structure ua (c c':Ck):Prop where
 preds:c'.ts.preds=c.ts.preds
 sorts:c'.ts.sorts=c.ts.sorts
 fields:c'.ts.fields=c.ts.fields
 calls:c'.calls=c.calls
 timed:c'.timed=c.timed
theorem ua.refl(c:Ck):ua c c:=⟨rfl,rfl,rfl,rfl,rfl⟩
theorem ua.callee(h:ua c c')(nm:ByteArray):zn c' nm=zn c nm:=by
 unfold zn;rw[h.preds,h.calls]
theorem ua.time(h:ua c c')(op:Int)(nm:ByteArray):zL c' op nm=zL c op nm:=by
 unfold zL;rw[h.callee,h.timed]
theorem ua.means(h:ua c c')(nm:ByteArray):means c'.ts nm=means c.ts nm:=by
 unfold P1.means;rw[h.fields,h.sorts]
theorem XX(o:ua c c'):∀(m:Nat) (n:Nd) (s s':Scp) (inn:Bool),szN n<=m->(∀ nm,wc nm n->lookS nm s=lookS nm s')->exam c s inn n=exam c' s' inn n
 | 0,n,_,_,_,J,_=>by obtain⟨op,nm,i,ks,p⟩:=n;simp[szN]at J
 |m+1,n,s,s',inn,J,h=>by
  have l:∀ k,k∈n.kids->∀(s s':Scp) (inn:Bool),(∀ nm,wc nm k->lookS nm s=lookS nm s')->exam c s inn k=exam c' s' inn k:=fun k l s s' inn P =>
   XX o m k s s' inn (zW1 (zS l)) P
  have t:∀ k,k∈n.kids->∀ nm,wc nm k->lookS nm s=lookS nm s':=fun k l nm R=>h nm (qj0 l R)
  refine n8 rfl rfl rfl rfl (o.time _ _) (fun _=>?_) o.preds (o.callee _) (by rw[o.sorts]) rfl (fun _ U=>me fun k g=>l k g s s' true (t k g)) (fun _ inn=>?_) (fun _ _ _ inn=>Ug fun k g=>l k g s s' inn (t k g))
  .rw [w7,w7,h _ (qjZ n),o.means]
  .cases C:n.kids with
   |nil=>rfl
   |cons k ks =>
    have j:∀ x,x∈k :: ks->x∈n.kids:=fun x hx=>by rw[C];exact hx
    simp only[z8];rw[l k (j k (q8 ..)) s s' inn (t k (j k (q8 ..)))];have T:∀ a,qQ c ((n.name,a) :: s) inn ks=qQ c' ((n.name,a) :: s') inn ks:=fun a=>Ug fun x hx=>by
     have r:=j x (qY _ hx);refine l x r _ _ inn fun nm I=>?_
     rw[vJ,vJ,t x r nm I]
    simp only[T]
def wf(ts:TS)(g:List (ByteArray×Nd)):TS:=⟨ts.sorts,ts.fields,ts.preds,g⟩
theorem mf(g:ua c c'):∀(m:Nat) (n:Nd),szN n<=m->zX c' n=zX c n
 | 0,n,j=>by obtain⟨op,nm,i,ks,p⟩:=n;simp[szN]at j
 |m+1,.mk op nm i ks p,j=>by
  simp only[zX,g.time];congr 1;have:∀ l:List Nd,(∀ k,k∈l->k∈ks)->Zu c' l=Zu c l:=by
   intro l;induction l with
   |nil=>intro _;rfl
   |cons k l r =>
    intro o;simp only[Zu];rw[r fun x hx=>o x (qY _ hx),mf g m k (by
     have:=zS (n := .mk op nm i ks p) (k:=k) (o k (q8 ..));omega)]
  exact this ks fun k t=>t
theorem mh(ts:TS)(g:List (ByteArray×Nd)):∀ k,tmsL (wf ts g) k=tmsL ts k
 | 0=>rfl
 |k+1=>by
  simp only[tmsL,mh ts g k];show tmsL ts k++(match ts.preds[k]? with|some p=>[zX ⟨wf ts g,k,tmsL ts k⟩ p.body] | none=>[])=_;cases ts.preds[k]? with
  |none=>rfl
  |some p =>
   simp only;rw[mf (c:=⟨ts,k,tmsL ts k⟩) (c':=⟨wf ts g,k,tmsL ts k⟩) ⟨rfl,rfl,rfl,rfl,rfl⟩ (szN p.body) p.body (qm _)]
theorem qj2(ts:TS)(g:List (ByteArray×Nd))(k:Nat):ua (mkCk ts k) (mkCk (wf ts g) k):=⟨rfl,rfl,rfl,rfl,mh ts g k⟩
theorem qj3(ts:TS)(g:List (ByteArray×Nd))(k:Nat)(env:List (ByteArray×Int))(n:Nd):yR (mkCk (wf ts g) k) env n=yR (mkCk ts k) env n:=by
 unfold yR;rw[XX (qj2 ts g k) (szN n) n _ _ _ (qm _) fun nm _=>rfl]
theorem mi(ts:TS)(g:List (ByteArray×Nd))(env:List (ByteArray×Int))(n:Nd):yi (wf ts g) env n=yi ts env n:=qj3 ts g _ env n
theorem qj4{J:Type}(g:J->J->Bool)(l:List J)(i:Nat):(repL g l)[i]?=(l[i]?).map fun x=>(l.take i).any fun y=>g x y:=by
 by_cases h:i<l.length
 .rw [nN g l h,qA h];rfl
 .rw [jj (by rw[wY];omega),jj zOm];rfl
theorem mj{J:Type}(g:J->J->Bool)(l:List J)(i:Nat):repB g l i=match l[i]? with|some x=>[(l.take i).any fun y=>g x y] | none=>[]:=by
 unfold repB;rw[List.take_add_one,qj4,List.drop_append];by_cases h:i<l.length
 .rw [qA h,List.length_take,wY,Nat.min_eq_left zOm,List.drop_of_length_le zSo]
  simp
 .rw [jj zOm,List.drop_of_length_le zSo]
  simp
def binB(op:Int):Bool:=decide (op=15)||decide (op=45)||decide (op=46)
end
end PA
namespace YZ
open YM P1 Y1 Y9 YX
mutual
def depN:Nd->Int
 | .mk _ _ _ ks _=>zZ ks+1
def zZ:List Nd->Int
 | []=>0
 |k :: ks=>max (depN k) (zZ ks)
end
mutual
theorem ml:∀ n:Nd,0<=depN n
 | .mk _ _ _ ks _=>by simp only[depN];have:=Jy ks;omega
theorem Jy:∀ ks:List Nd,0<=zZ ks
 | []=>by simp[zZ]
 |k :: ks=>by simp only[zZ];have:=Jy ks;omega
end
theorem wd(n:Nd):depN n=zZ n.kids+1:=by
 obtain⟨op,nm,i,ks,p⟩:=n;simp[depN,Nd.kids]
theorem XY{ks:List Nd}{k:Nd}(h:k∈ks):depN k<=zZ ks:=by
 induction ks with
 |nil=>simp at h
 |cons a l g =>
  simp only[zZ];rcases qt.1 h with rfl|h
  .omega
  .have:=g h;omega
theorem mn:∀(m:Nat) (n:Nd),szN n<=m->Small n->depN n<=1000000->qd qb 146 [eNd n] (aI (depN n))
 | 0,n,I,_,_=>by obtain⟨op,nm,i,ks,p⟩:=n;simp[szN]at I
 |m+1,n,I,J,P=>by
  have ih:∀ k,k∈n.kids->qd qb 146 [eNd k] (aI (depN k)):=fun k j =>
   mn m k (zW1 (zS j)) (J.kid j) (by rw[wd]at P;have:=XY j;omega)
  rw[wd]at P⊢;have R:=J.len;have a0:=Jy n.kids;generalize hD:zZ n.kids=D at *
  refine qd.of_sound (qe.of_awp call146 func146 rfl (qh zKr) zKr (pl:={}) ?_);simp[go_sem];refine qn.upK n.kids.length (fun k U=>∃ d,U.tm 3=aI d/\U.tm 7=lNd n.kids/\U.tm 8=aI n.kids.length/\U.tm 9=aI k/\0<=d/\max d (zZ (n.kids.drop k))=D) ?_ ?_
  .exact ⟨0,zSi,zSi,zSi,zSi,zOm,by simp only[List.drop_zero,hD];omega⟩
  .rintro k U j ⟨d,e3,e7,o,r,a1,l⟩
   by_cases t:k=n.kids.length
   .subst t
    rw[yk]at l;simp only[zZ]at l;have C:d=D:=zOm;subst C;have w:qj.wrap (d+1)=d+1:=qi zOm zOm;simp[go_sem,e3,o,r,w];exact .zsc _
   .have g:k<n.kids.length:=by omega
    have w1:qj.wrap ((k:Int)+1)=(k:Int)+1:=qi zOm zOm;rw[zt g]at l;simp only[zZ]at l;simp[go_sem,e3,e7,o,r,g];refine qc.pure (ih n.kids[k] (qy g)) (.zk (qz _) .nil) ?_;simp[go_sem,r,w1];refine⟨g,Keep.mk' ?_⟩;refine⟨if d<depN n.kids[k] then depN n.kids[k] else d,zSi,zS1 e7,zS1 o,zSi,?_,?_⟩
    .have:=ml n.kids[k]
     split<;>omega
    .split<;>omega
mutual
def preN:Nd->List Nd
 | .mk op nm n ks p => .mk op nm n ks p :: zo ks
def zo:List Nd->List Nd
 | []=>[]
 |k :: ks=>preN k++zo ks
end
theorem ub(n:Nd):preN n=n :: zo n.kids:=by
 obtain⟨op,nm,i,ks,p⟩:=n;simp[preN,Nd.kids]
theorem Yh(a b:List Nd):zo (a++b)=zo a++zo b:=by
 induction a with
 |nil=>rfl
 |cons x a g=>simp[zo,g]
theorem Uh{f:wh}{caps:List AV}(I:List Nd->Mu->Prop)(hp:∀ v mu l,I v mu->I v (mu++l))(hf:∀ v k mu,I v mu->qe qb f (eNd k :: caps) mu fun e m=>e = .ret (.tup [])/\I (v++[k]) m) :
  ∀(m:Nat) (n:Nd),szN n<=m->Small n->∀(v:List Nd) (mu:Mu),I v mu->qe qb 139 [eNd n,.fn (.func f) [] caps] mu fun e m=>e = .ret (.tup [])/\I (v++preN n) m
 | 0,n,hm,_,_,_,_=>by obtain⟨op,nm,i,ks,p⟩:=n;simp[szN]at hm
 |m+1,n,hm,hs,v,mu,J=>by
  have ih:∀ k,k∈n.kids->∀ v mu,I v mu->qe qb 139 [eNd k,.fn (.func f) [] caps] mu fun e m=>e = .ret (.tup [])/\I (v++preN k) m:=fun k P v mu J =>
   Uh I hp hf m k (zW1 (zS P)) (hs.kid P) v mu J
  have a2:=hs.len;rw[ub];refine qe.of_awp call139 func139 rfl (qh zKr) zKr (pl:={}) ?_;simp[go_sem];refine qc.eff (hf v n mu J) ?_ (by rintro r m ⟨e,_⟩;cases e);rintro r m ⟨e,R⟩;cases e;simp[go_sem];refine qn.upK n.kids.length (fun k U=>U.tm 1 = .fn (.func f) [] caps/\U.tm 10=lNd n.kids/\U.tm 11=aI n.kids.length/\U.tm 12=aI k/\I (v++[n]++zo (n.kids.take k)) U.mu) ?_ ?_
  .exact ⟨zSi,zSi,zSi,zSi,by simpa[go_sem,zo] using R⟩
  .rintro k U P ⟨e1,C,j,o,t⟩
   by_cases a0:k=n.kids.length
   .subst a0
    rw[zw]at t;simp[go_sem,j,o];simpa using t
   .have g:k<n.kids.length:=by omega
    have w1:qj.wrap ((k:Int)+1)=(k:Int)+1:=qi zOm zOm;simp[go_sem,e1,C,j,o,g];refine qc.eff0 (ih n.kids[k] (qy g) _ _ (hp _ _ _ t)) ?_ (by rintro r m ⟨e,_⟩;cases e);rintro r m ⟨e,a1⟩;cases e;simp[go_sem,o,w1];refine⟨g,Keep.mk' ?_⟩;refine⟨zS1 e1,zS1 C,zS1 j,zSi,?_⟩;have e:zo (n.kids.take (k+1))=zo (n.kids.take k)++preN n.kids[k]:=by
     rw[List.take_add_one,qA g,Yh];simp[zo]
    rw[e,<-List.append_assoc];simpa[go_sem] using a1
def setN(l:List ByteArray)(b:ByteArray):List (ByteArray×Bool)->List (ByteArray×Bool):=fun I=>setK b true I
abbrev eSet(es:List (ByteArray×Bool)):List (AV×AV):=encK aS aB es
theorem updS{mu:Mu}{b:Nat}{es:List (ByteArray×Bool)}(i:mu[b]?=some (.mp (eSet es)))(nm:ByteArray) :
  jt qb mu 204 (.mp b) (aS nm) (aB true)=some (mu.set b (.mp (eSet (setK nm true es)))):=
 keyS.update (et:=4) (t:=204) zSi (mu:=mu) (b:=b) (venc:=aB) (es:=es) i (k:=nm) (v:=true) trivial (fun _ _=>trivial)
theorem mq(ts:TS)(s:ISt)(tb:Nat)(c:Bool)(es:List (ByteArray×Bool))(n:Nd){mu:Mu}{p g xb:Nat}(r:mu[p]?=some (.arr [.ptr xb 0]))(hx:mu[xb]?=some (.arr (cIn ts tb s)))(l:mu[g]?=some (.arr [aB c]))(j:mu[tb]?=some (.mp (eSet es))) :
  qe qb 140 [eNd n,.ptr p 0,.ptr g 0] mu fun e m=>e = .ret (.tup [])/\m=(mu.set tb (.mp (eSet (setK n.name true es)))).set g (.arr [aB (c||decide (n.op=47))]):=by
 refine qe.of_awp call140 func140 rfl (qh zKr) zKr (pl:={}) ?_;have t:g<mu.length:=(qk.1 l).1;have C:tb<mu.length:=(qk.1 j).1;simp[go_sem];refine qg.intro zKr ?_;have I:=updS j n.name;simp[go_sem,r,hx];refine OptK.intro _ I ?_;have o:tb≠g:=fun e=>by rw[e,l]at j;cases j
 generalize J:Cell.mp (eSet (setK n.name true es))=N at *
 have i:(mu.set tb N)[g]?=some (.arr [aB c]):=by rw[qv o];exact l
 cases c
 .simp [go_sem,i]
  try rfl
 .simp [go_sem,i]
  try rfl
theorem qj5(ts:TS)(s:ISt)(tb:Nat)(es:List (ByteArray×Bool))(n:Nd){mu:Mu}{g xb:Nat}(j:mu[g]?=some (.arr [.ptr xb 0]))(hx:mu[xb]?=some (.arr (cIn ts tb s)))(i:mu[tb]?=some (.mp (eSet es))) :
  qe qb 141 [eNd n,.ptr g 0] mu fun e m=>e = .ret (.tup [])/\m=mu.set tb (.mp (eSet (setK n.name true es))):=by
 refine qe.of_awp call141 func141 rfl (qh zKr) zKr (pl:={}) ?_;have l:tb<mu.length:=(qk.1 i).1;simp[go_sem];refine qg.intro zKr ?_;have o:=updS i n.name;simp[go_sem,j,hx];refine OptK.intro _ o ?_;simp[go_sem]
end YZ
namespace YA
open YM YS YF P1 Y1 Y9 Y10 YX YZ
def vN(k:Int):ByteArray:=⟨#[118]⟩++jh k
theorem XZ(k:Int)(g : -9223372036854775808<=k)(i:k<=9223372036854775807):(jh k).size<=21:=by
 have:=Lib.itoa_length_le k g i;unfold jh;simpa[ByteArray.size] using this
def yr(ts:TS)(es:List (ByteArray×Bool))(nm:ByteArray):Bool:=decide (getK nm es≠some true)&&decide (means ts nm=[])
def zj(ts:TS)(es:List (ByteArray×Bool)):Nat->Int->Int
 | 0,k=>k+1
 |f+1,k=>if yr ts es (vN (k+1))=true then k+1 else zj ts es f (k+1)
theorem qj6{mu:Mu}{tb:Nat}{es:List (ByteArray×Bool)}(i:mu[tb]?=some (.mp (eSet es)))(nm:ByteArray):yg qb mu 204 (.mp tb) (aS nm) false=some (aB (decide (getK nm es=some true))):=by
 have:=keyS.look (et:=4) (t:=204) zSi (mu:=mu) (m := .mp tb) (venc:=aB) (es:=es) (by simp only[jI,i]) (k:=nm) trivial (fun _ _=>trivial) (z:=aB false) zSi false;refine Eq.trans ?_ (this.trans ?_)
 .rfl
 .cases getK nm es with
  |none=>rfl
  |some b=>cases b<;>rfl
theorem qj7{mu:Mu}{b:Nat}{c:Cell}(h:mu[b]?=some c):mu.set b c=mu:=by
 apply List.ext_getElem?;intro i;by_cases e:b=i
 .subst e
  rw[qJ (qk.1 h).1,h]
 .rw [qv e]
theorem mr(ts:TS)(h:okTS ts)(s:ISt)(F:Nat)(hs:0<=s.last/\s.last+F<=1000000000)(tb:Nat)(es:List (ByteArray×Bool))(J:∃ j:Nat,1<=j/\j<=F/\yr ts es (vN (s.last+j))=true){mu:Mu}{xb:Nat}(hx:mu[xb]?=some (.arr (cIn ts tb s)))(P:mu[tb]?=some (.mp (eSet es))) :
  qe qb 269 [.ptr xb 0] mu fun e m=>e = .ret (aS (vN (zj ts es F s.last)))/\m=mu.set xb (.arr (cIn ts tb ⟨zj ts es F s.last,s.cost⟩)):=by
 refine qe.of_awp call269 func269 rfl (qh zKr) zKr (pl:={}) ?_;have a0:xb<mu.length:=(qk.1 hx).1;have a3:tb≠xb:=fun e=>by rw[e,hx]at P;cases P
 simp[go_sem];generalize hR:zj ts es F s.last=R;refine qn.keep (fun m U=>∃ l:Int,0<=l/\l+m<=1000000000/\U.tm 0 = .ptr xb 0/\U.mu=mu.set xb (.arr (cIn ts tb ⟨l,s.cost⟩))/\zj ts es m l=R/\∃ j:Nat,1<=j/\j<=m/\yr ts es (vN (l+j))=true) F ?_ ?_
 .refine ⟨s.last,hs.1,hs.2,zSi,?_,hR,J⟩
  simp only[go_sem,qP,st0];rw[show cIn ts tb ⟨s.last,s.cost⟩=cIn ts tb s from rfl];exact(qj7 hx).symm
 .rintro m U ⟨l,a7,a8,t,hm,hI,j,a9,aa,p⟩
  obtain⟨m,rfl⟩:∃ m',m=m'+1:=⟨m-1,zOm⟩;have w1:qj.wrap (l+1)=l+1:=qi zOm zOm;have r:∀ c,(mu.set xb c)[xb]?=some c:=fun c=>qJ a0
  have a4:∀ c d,(mu.set xb c).set xb d=mu.set xb d:=fun c d=>List.set_set ..
  have a5:∀ c,(mu.set xb c)[tb]?=some (.mp (eSet es)):=fun c=>by rw[qv (fun e=>a3 e.symm)];exact P
  have ab:=XZ (l+1) zOm zOm;have C:1+(jh (l+1)).size<=9223372036854775807:=zOm;simp[go_sem,t,hm,r,a4,w1];refine qc.pure (itoaU (l+1) zOm zOm) (.zs .nil) ?_;simp[go_sem,t,r,C];rw[show (⟨#[118]⟩:ByteArray)++jh (l+1)=vN (l+1) from rfl];generalize i:vN (l+1)=nm;have I:=fun c=>qj6 (a5 c) nm
  simp[go_sem]at I;refine OptK.intro _ (I _) ?_;have g:yr ts es nm=false->zj ts es m (l+1)=R/\∃ j:Nat,1<=j/\j<=m/\yr ts es (vN (l+1+j))=true:=fun hn=>by
   simp only[zj,i,hn]at hI;refine⟨zUs hI,j-1,?_,zOm,?_⟩
   .have:j≠1:=fun e=>by rw[e,show l+((1:Nat):Int)=l+1 by omega,i,hn]at p;cases p
    omega
   .rw [show l+1+((j-1:Nat):Int)=l+j by omega];exact p
  by_cases hg:getK nm es=some true
  case pos =>
   obtain⟨a1,a2⟩:=g (by simp[yr,hg]);simp[go_sem,hg];refine Keep.loop m zOm ⟨l+1,zOm,zOm,zS1 t,zSi,a1,a2⟩
  case neg =>
   simp[go_sem,t,r,hg];refine qc.pure (Xl ts h nm) (.zk (zA ts) (.zs .nil)) ?_;by_cases o:means ts nm=[]
   .have a6:R=l+1:=by
     rw[<-hI];simp[zj,i,yr,hg,o]
    subst a6;simp[go_sem,o];rw[i]
    try rfl
   .obtain ⟨a1,a2⟩:=g (by simp[yr,o])
    simp[go_sem,o];refine Keep.loop m zOm ⟨l+1,zOm,zOm,zS1 t,zSi,a1,a2⟩
end YA
namespace YB
open YM YF P1 Y1 Y6 Y9 Y10 YX YZ YA
section
variable {es:IEnv}{mu:Mu}{b xb:Nat}
def ql(ts:TS)(es:List (ByteArray×Bool)):Nat:=es.length+ts.fields.length+3*ts.sorts.length+1
def renI(ts:TS)(es:List (ByteArray×Bool))(env:IEnv)(nm:ByteArray)(body:Bool)(s:ISt):(IEnv×ByteArray)×ISt:=
 if body=true\/means ts nm≠[] then
  ((setK nm ⟨none,0,vN (zj ts es (ql ts es) s.last)⟩ (delK nm env),vN (zj ts es (ql ts es) s.last)),⟨zj ts es (ql ts es) s.last,s.cost⟩)
 else ((delK nm env,nm),s)
theorem Qw{j J:Type} [DecidableEq j] {k:j} {v:J}:∀{es:List (j×J)},(es.map Prod.fst).Nodup->∀{x:j×J},x∈setK k v es↔x=(k,v)\/(x∈es/\x.1≠k)
 | [],_,x=>by simp[setK]
 |e :: es,h,x=>by
  rw[yc,vb]at h;unfold setK;by_cases i:k=e.1
  .rw [if_pos i,qt,qt]
   constructor
   .rintro (g|g)
    .exact .inl g
    .exact .inr ⟨.inr g,fun l=>h.1 (qr.2 ⟨x,g,by rw[l,i]⟩)⟩
   .rintro (g|⟨g|g,o⟩)
    .exact .inl g
    .exact absurd (by rw[g,i]) o
    .exact .inr g
  .rw [if_neg i,qt,qt,Qw h.2]
   constructor
   .rintro (g|g|g)
    .exact .inr ⟨.inl g,fun l=>i (by rw[<-l,g])⟩
    .exact .inl g
    .exact .inr ⟨.inr g.1,g.2⟩
   .rintro (g|⟨g|g,o⟩)
    .exact .inr (.inl g)
    .exact .inl g
    .exact .inr (.inr ⟨g,o⟩)
theorem vK{g:Nat->Bool}{m:Mu}{i:Nat}(h:g i=true):(cutM g m 0)[i]?=m[i]?:=by
 rw[uP,yy];simp only[h,if_true];cases m[i]?<;>rfl
theorem X0{x:AV×AV}:x∈encK aS eIV es↔∃ y,y∈es/\(aS y.1,eIV y.2)=x:=qr
theorem X1(h:(es.map Prod.fst).Nodup):((encK aS eIV es).map Prod.fst).Nodup:=by
 have e:(encK aS eIV es).map Prod.fst=(es.map Prod.fst).map aS:=by simp[encK]
 rw[e];exact List.pairwise_map.2 (h.imp fun g e=>g (by cases e;rfl))
theorem qj8{fs:IEnv}(i:mu[b]?=some (.md (encK aS eIV es)))(j:(es.map Prod.fst).Nodup)(l:(fs.map Prod.fst).Nodup)(g:∀ x,x∈es↔x∈fs):Rd mu (.mp b) (eEnv fs):=by
 refine Rd.mds i (X1 j) (X1 l) (fun x=>?_) (fun x hx=>?_)
 .rw [X0,X0]
  exact⟨fun⟨y,h,e⟩=>⟨y,(g y).1 h,e⟩,fun⟨y,h,e⟩=>⟨y,(g y).2 h,e⟩⟩
 .obtain ⟨y,_,rfl⟩:=X0.1 hx
  exact⟨HF.sc _,qjJ _⟩
theorem updE(i:mu[b]?=some (.mp (encK aS eIV es)))(nm:ByteArray)(v:IV) :
  jt qb mu 212 (.mp b) (aS nm) (eIV v)=some (mu.set b (.mp (encK aS eIV (setK nm v es)))):=
 keyS.update (et:=292) (t:=212) zSi (mu:=mu) (b:=b) (venc:=eIV) (es:=es) i (k:=nm) (v:=v) trivial (fun _ _=>trivial)
theorem mv(i:mu[b]?=some (.md (encK aS eIV es)))(nm:ByteArray)(v:IV) :
  jt qb mu 212 (.mp b) (aS nm) (eIV v)=some (mu.set b (.md (encK aS eIV (setK nm v es)))):=
 keyS.updateD (et:=292) (t:=212) zSi (mu:=mu) (b:=b) (venc:=eIV) (es:=es) i (k:=nm) (v:=v) trivial (fun _ _=>trivial)
structure But (xb:Nat) (mu m:Mu):Prop where
 len:mu.length<=m.length
 same:∀ i,i<mu.length->i≠xb->m[i]?=mu[i]?
theorem But.trans{a b c:Mu}(h:But xb a b)(k:But xb b c):But xb a c:=⟨zP h.len k.len,fun i g j=>(k.same i (Nat.lt_of_lt_of_le g h.len) j).trans (h.same i g j)⟩
theorem But.app(xb:Nat)(mu l:Mu):But xb mu (mu++l):=⟨zSp,fun i g _=>qo g⟩
theorem But.setX(xb:Nat)(mu:Mu)(c:Cell):But xb mu (mu.set xb c):=⟨zSp,fun i j g=>qv (fun e=>g e.symm)⟩
theorem But.setN{m:Mu}(h:But xb mu m){j:Nat}(o:mu.length<=j)(c:Cell):But xb mu (m.set j c):=⟨by simpa using h.len,fun i g l=>by rw[qv zOm];exact h.same i g l⟩
theorem But.cut{m:Mu}(h:But xb mu m){g:Nat->Bool}(hg:∀ i,i<mu.length->g i=true):But xb mu (cutM g m 0):=⟨by rw[jr];exact h.len,fun i j l=>by rw[vK (hg i j)];exact h.same i j l⟩
theorem qj9(a:Option Nd):(aArg a).one=true:=by cases a<;>rfl
theorem qkA(ts:TS)(h:okTS ts)(s:ISt)(es:List (ByteArray×Bool))(hs:0<=s.last/\s.last+(ql ts es:Nat)<=1000000000)(tb:Nat)(ag:∃ j:Nat,1<=j/\j<=ql ts es/\yr ts es (vN (s.last+j))=true)(env:IEnv)(hk:(env.map Prod.fst).Nodup)(nm:ByteArray)(body:Bool)
  {mu:Mu} {xb:Nat} (hx:mu[xb]?=some (.arr (cIn ts tb s))) (ht:mu[tb]?=some (.mp (eSet es))) :
  qe qb 222 [.ptr xb 0,eEnv env,aS nm,aB body] mu fun e m=>e = .ret (.tup [eEnv (renI ts es env nm body s).1.1,aS (renI ts es env nm body s).1.2])/\But xb mu m/\m[xb]?=some (.arr (cIn ts tb (renI ts es env nm body s).2)):=by
 refine qe.give ?_;refine qe.of_awp call222 func222 rfl (qh zKr) zKr (pl:={}) ?_;have ar:xb<mu.length:=(qk.1 hx).1;have au:tb<mu.length:=(qk.1 ht).1;have av:tb≠xb:=fun e=>by rw[e,hx]at ht;cases ht
 simp[go_sem];obtain⟨B,hB⟩:∃ B,B=encK aS eIV env:=⟨_,rfl⟩;have aw:B.length=env.length:=by rw[hB];simp
 rw[<-hB];refine qn.seen env.length (fun seen U=>U.tm 0 = .ptr xb 0/\U.tm 2=aS nm/\U.tm 3=aB body/\U.tm 10 = .mp mu.length/\U.tm 16 = .ptr (mu.length+1) 0/\But xb mu U.mu/\mu.length+1<U.mu.length/\U.mu[xb]?=mu[xb]?/\U.mu[mu.length+1]?=some (.it B seen) /\
  ∃ o:IEnv,U.mu[mu.length]?=some (.mp (encK aS eIV o))/\(o.map Prod.fst).Nodup/\∀ x,x∈o↔∃ i,i∈seen/\env[i]?=some x) ?_ ?_
 .refine ⟨zSi,zSi,zSi,zSi,zSi,?_,?_,?_,zSi,[],zSi,zSp,zSp⟩
  .simpa [go_sem] using But.app xb mu _
  .simp [go_sem]
  .show (mu++[Cell.mp [],Cell.it B []])[xb]?=mu[xb]?
   rw[qo ar]
 .rintro seen U b6 b7 ⟨e0,e2,e3,I,a8,a0,hl,ah,ax,o,a7,p,C⟩
  simp[go_sem,a8];refine⟨mu.length+1,B,seen,rfl,ax,fun i e hi ai=>?_,fun aj=>?_⟩
  .have J:∃ y,env[i]?=some y/\e=(aS y.1,eIV y.2):=by
    rw[hB,zu,j8]at hi;obtain⟨y,J,rfl⟩:=hi;exact⟨y,J,rfl⟩
   obtain⟨⟨k,va,vz,vn⟩,J,rfl⟩:=J;have ay:i<env.length:=(qk.1 J).1;have a9:∀(c:Cell) (l:List Cell),(U.mu.set (mu.length+1) c++l)[mu.length]?=some (.mp (encK aS eIV o)):=fun c l=>by
    rw[qo zSo,qv zOm];exact a7
   have hu:=fun c l=>updE (a9 c l) k ⟨va,vz,vn⟩
   simp[go_sem,I,a8,hi,hl,qj9];refine OptK.intro _ (hu _ _) ?_;generalize hM:List.set (U.mu.set (mu.length+1) (Cell.it B (seen++[i]))++[Cell.arr [aArg va,aI vz,aS vn]]) mu.length (.mp (encK aS eIV (setK k ⟨va,vz,vn⟩ o)))=M;have b8:M.length=U.mu.length+1:=by rw[<-hM];simp
   have ak:∀ j,j<U.mu.length->j≠mu.length->j≠mu.length+1->M[j]?=U.mu[j]?:=fun j h1 h2 h3=>by
    rw[<-hM,qv zOm,qo (zUs h1),qv zOm]
   have az:M[mu.length]?=some (.mp (encK aS eIV (setK k ⟨va,vz,vn⟩ o))):=by
    rw[<-hM,qJ zSo]
   have b0:M[mu.length+1]?=some (.it B (seen++[i])):=by
    rw[<-hM,qv zOm,qo (zUs hl),qJ hl]
   have aa:∀ v,(k,v)∈o->False:=fun v hm=>by
    obtain⟨j,P,R⟩:=(C _).1 hm;have h1:(env.map Prod.fst)[j]?=some k:=by rw[zu,R];rfl
    have h2:(env.map Prod.fst)[i]?=some k:=by rw[zu,J];rfl
    have b1:j<(env.map Prod.fst).length:=(qk.1 h1).1;exact ai ((List.getElem?_inj b1 hk).1 (h1.trans h2.symm) ▸ P)
   simp[go_sem];refine⟨i,ay,ai,Keep.mk' ?_⟩;refine⟨zS1 e0,zS1 e2,zS1 e3,zS1 I,zS1 a8,?_,by simp only[go_sem,qP];omega,?_,zVs b0,_,zVs az,uV p,fun x v=>?_⟩
   .simp only[go_sem,qP]
    exact⟨zOm,fun j P hn=>by rw[ak j zOm zOm zOm];exact a0.same j P hn⟩
   .simp only[go_sem,qP]
    rw[ak xb zOm zOm zOm];exact ah
   .rw [Qw p,C]
    constructor
    .rintro (e|⟨⟨j,P,R⟩,_⟩)
     .exact ⟨i,zSp,by rw[J,e]⟩
     .exact ⟨j,zP1 P,R⟩
    .rintro ⟨j,P,R⟩
     rcases qM.1 P with P|P
     .refine .inr ⟨⟨j,P,R⟩,fun e=>?_⟩
      simp only at e;subst e;exact aa v ((C _).2 ⟨j,P,R⟩)
     .rw [qL]at P
      subst P;rw[J]at R;exact .inl (Option.some.inj R).symm
  .simp [go_sem,e2,I]
   have ab:∀ x,x∈o↔x∈env:=fun x=>by
    rw[C];constructor
    .rintro ⟨i,_,R⟩;exact qV R
    .intro hx
     obtain⟨i,R⟩:=List.mem_iff_getElem?.1 hx;exact⟨i,aj i (by rw[aw];exact(qk.1 R).1),R⟩
   refine keyS.delete (et:=292) (t:=212) zSi a7 trivial (fun _ _=>trivial) ?_;have a1:=Zv (k:=nm) p;have ad:∀ x,x∈delK nm o↔x∈delK nm env:=fun x=>by rw[VK p,VK hk,ab]
   have al:mu.length<U.mu.length:=zOm;have b2:∀ c,(U.mu.set mu.length c)[xb]?=some (.arr (cIn ts tb s)):=fun c=>by rw[qv zOm,ah];exact hx
   have b3:∀ c,(U.mu.set mu.length c)[tb]?=some (.mp (eSet es)):=fun c=>by rw[qv zOm,a0.same tb au av];exact ht
   have ae:∀ c,But xb mu (U.mu.set mu.length c):=fun c=>a0.setN (qm _) c
   have hD:∀ c,(U.mu.set mu.length c)[mu.length]?=some c:=fun c=>qJ al
   generalize hM:U.mu.set mu.length (.md (encK aS eIV (delK nm o)))=M;have a2:M[xb]?=some (.arr (cIn ts tb s)):=by rw[<-hM];exact b2 _
   have an:M[tb]?=some (.mp (eSet es)):=by rw[<-hM];exact b3 _
   have af:But xb mu M:=by rw[<-hM];exact ae _
   have a3:M[mu.length]?=some (.md (encK aS eIV (delK nm o))):=by rw[<-hM];exact hD _
   have ao:mu.length<M.length:=(qk.1 a3).1;have fin:∀(m:Mu) (a4 fs:IEnv) (a5:ByteArray) (s1:ISt),But xb mu m->m[mu.length]?=some (.md (encK aS eIV a4))->(a4.map Prod.fst).Nodup->(fs.map Prod.fst).Nodup->(∀ x,x∈a4↔x∈fs)->m[xb]?=some (.arr (cIn ts tb s1))->((fs,a5),s1)=renI ts es env nm body s ->
     ∃(g:Nat->Bool) (x:AV),Gv m g (.tup [.mp mu.length,aS a5]) x/\x = .tup [eEnv (renI ts es env nm body s).1.1,aS (renI ts es env nm body s).1.2]/\But xb mu (cutM (fun i=>!g i) m 0)/\(cutM (fun i=>!g i) m 0)[xb]?=some (.arr (cIn ts tb (renI ts es env nm body s).2)):=by
    intro m a4 fs a5 s1 hb hd n1 n2 hm b4 e;rw[<-e];refine⟨fun i=>i == mu.length,.tup [eEnv fs,aS a5],.rd _ _ (.tup _ _ rfl fun k x y hx J=>?_),rfl,hb.cut fun i hi=>zSo,?_⟩
    .match k with
     | 0 =>
      simp at hx J;subst hx;subst J;exact qj8 (by rw[vK zSp];exact hd) n1 n2 hm
     | 1 =>
      simp at hx J;subst hx;subst J;exact .zsc _
     |k+2=>simp at hx
    .rw [vK zSo];exact b4
   have b5:∀(b9:St) (K:qX->St->Prop),True:=fun _ _=>trivial
   by_cases hb:body=true
   .subst hb
    simp[go_sem,e0,e3];refine qc.eff0 (mr ts h s (ql ts es) hs tb es ag a2 an) ?_ (by rintro r m ⟨e,_⟩;cases e);rintro r m ⟨e,rfl⟩;cases e;have hu:=mv (mu:=M.set xb (.arr (cIn ts tb ⟨zj ts es (ql ts es) s.last,s.cost⟩))) (b:=mu.length) (by rw[qv zOm];exact a3) nm ⟨none,0,vN (zj ts es (ql ts es) s.last)⟩;simp[go_sem,e2,I];refine OptK.intro _ hu ?_;simp[go_sem,I];refine(fin _ _ _ _ ⟨zj ts es (ql ts es) s.last,s.cost⟩ ((af.trans (But.setX xb M _)).setN (qm _) _) (qJ (zUs ao)) (uV a1) (uV (Zv hk)) (fun x=>by rw[Qw a1,Qw (Zv hk),ad]) (by rw[qv zOm,qJ zOm];rfl) ?_);simp[renI]
   .have hb:body=false:=by simpa using hb
    subst hb;simp[go_sem,e0,e2,e3,a2];refine qc.pure (Xl ts h nm) (.zk (zA ts) (.zs .nil)) ?_;by_cases a6:means ts nm=[]
    .simp [go_sem,e2,I,a2,a6]
     refine(fin M _ _ _ _ af a3 a1 (Zv hk) ad a2 ?_);simp[renI,a6]
    .have aq:0<(means ts nm).length:=List.length_pos_iff.2 a6
     simp[go_sem,e0,aq];refine qc.eff0 (mr ts h s (ql ts es) hs tb es ag a2 an) ?_ (by rintro r m ⟨e,_⟩;cases e);rintro r m ⟨e,rfl⟩;cases e;have hu:=mv (mu:=M.set xb (.arr (cIn ts tb ⟨zj ts es (ql ts es) s.last,s.cost⟩))) (b:=mu.length) (by rw[qv zOm];exact a3) nm ⟨none,0,vN (zj ts es (ql ts es) s.last)⟩;simp[go_sem,e2,I];refine OptK.intro _ hu ?_;simp[go_sem,I];refine(fin _ _ _ _ ⟨zj ts es (ql ts es) s.last,s.cost⟩ ((af.trans (But.setX xb M _)).setN (qm _) _) (qJ (zUs ao)) (uV a1) (uV (Zv hk)) (fun x=>by rw[Qw a1,Qw (Zv hk),ad]) (by rw[qv zOm,qJ zOm];rfl) ?_);simp[renI,a6]
end
end YB
namespace YC
open P1 Y1 YX YZ YA YB PA
section
variable {env:IEnv}{s:ISt}{es:List (ByteArray×Bool)}{F:Nat}{ts:TS}
abbrev XR(J:Type):=Except Dg (J×ISt)
def yF(E:Nd->ISt->XR (Nd×Int)):List (ByteArray×Int)->List Nd->IEnv->ISt->XR IEnv
 |p :: g,k :: ks,own,s=>match E k s with
  | .error e => .error e
  | .ok ((i,m),j)=>yF E g ks (setK p.1 ⟨some i,m,⟨#[]⟩⟩ own) j
 |_,_,own,s => .ok (own,s)
def ya(E:IEnv->Nd->ISt->XR (Nd×Int))(R:IEnv->ByteArray->ISt->(IEnv×ByteArray)×ISt)(bin:Bool):Nat->IEnv->ByteArray->List Nd->ISt->XR (ByteArray×List Nd×Int)
 |_,_,nm,[],s => .ok ((nm,[],0),s)
 |i,env,nm,k :: ks,s =>
  let r:=if bin=true/\i=1 then R env nm s else ((env,nm),s)
  match E r.1.1 k r.2 with
  | .error e => .error e
  | .ok ((o,m),p)=>match ya E R bin (i+1) r.1.1 r.1.2 ks p with
   | .error e => .error e
   | .ok ((g,j,t),l) => .ok ((g,o :: j,m+t),l)
def vq{J i:Type}(q:XR J)(g:J->ISt->XR i):XR i:=
 match q with
 | .error e => .error e
 | .ok (a,s)=>g a s
theorem Qx{J i:Type}{q:XR J}{g:J->ISt->XR i}{r:i×ISt}(h:vq q g = .ok r):∃ a s,q = .ok (a,s)/\g a s = .ok r:=by
 unfold vq at h;split at h
 .cases h
 .exact ⟨_,_,rfl,h⟩
def expI(ts:TS)(es:List (ByteArray×Bool)):Nat->IEnv->Nd->Bool->ISt->XR (Nd×Int)
 | 0,_,_,_,_ => .error (2,0)
 |f+1,env,n,i,s =>
  if s.cost+1<=4000 then
   if n.op=1 then j0 env n (payS 1 s)
   else if n.op=47 then match ts.preds.find? fun p=>decide (p.name=n.name) with
    |none => .error (2,0)
    |some p=>vq (yF (fun k s=>expI ts es f env k i s) p.params n.kids [] (payS 1 s)) fun own g=>expI ts es f own p.body true g
   else vq (ya (fun env k s=>expI ts es f env k i s) (fun env nm s=>renI ts es env nm i s) (binB n.op) 0 env n.name n.kids (payS 1 s)) fun r g => .ok ((.mk n.op r.1 n.n r.2.1 n.pos,1+r.2.2),g)
  else .error (2,0)
def yG(ts:TS)(n:Nd):Prop:=∀ x,x∈preN n->x.op=47->∃ p,(ts.preds.find? fun p=>decide (p.name=x.name))=some p/\p.params.length=x.kids.length
theorem mw{ks:List Nd}{k x:Nd}(g:k∈ks)(hx:x∈preN k):x∈zo ks:=by
 induction ks with
 |nil=>simp at g
 |cons a l i =>
  simp only[zo,qM];rcases qt.1 g with rfl|g
  .exact .inl hx
  .exact .inr (i g)
theorem Ui{n k x:Nd}(g:k∈n.kids)(hx:x∈preN k):x∈preN n:=by
 rw[ub];exact qY _ (mw g hx)
theorem jQ(n:Nd):n∈preN n:=by rw[ub];exact q8 ..
theorem yG.kid{n k:Nd}(h:yG ts n)(g:k∈n.kids):yG ts k:=fun x hx=>h x (Ui g hx)
def pot(F:Nat)(s:ISt):Int:=s.cost*F-s.last
structure StOk (F:Nat) (s:ISt):Prop where
 l0:0<=s.last
 c0:0<=s.cost
 c1:s.cost<=4000
 p:0<=pot F s
theorem StOk.last(h:StOk F s):s.last<=4000*F:=by
 have g:s.cost*F<=4000*F:=Int.mul_le_mul_of_nonneg_right h.c1 zOm;have:=h.p;unfold pot at this;omega
structure zl (env:IEnv):Prop where
 nd:(env.map Prod.fst).Nodup
 sz:∀ e,e∈env->0<=e.2.size/\e.2.size<=4000
theorem zl.nil:zl []:=⟨zSp,fun e g=>by simp at g⟩
theorem zl.set(h:zl env){k:ByteArray}{v:IV}(i:0<=v.size/\v.size<=4000):zl (setK k v env):=
 ⟨uV h.nd,fun e g=>by
  rcases (Qw h.nd).1 g with rfl|⟨g,_⟩
  .exact i
  .exact h.sz e g⟩
theorem zl.del(h:zl env){k:ByteArray}:zl (delK k env):=⟨Zv h.nd,fun e g=>h.sz e ((VK h.nd).1 g).1⟩
theorem Yi{nm:ByteArray}{body:Bool}(h:zl env):zl (renI ts es env nm body s).1.1:=by
 unfold renI;split
 .exact h.del.set ⟨zSp,zSp⟩
 .exact h.del
theorem Uj(ts:TS)(es:List (ByteArray×Bool)):∀(f:Nat) (k:Int),k<zj ts es f k/\zj ts es f k<=k+f+1
 | 0,k=>by simp only[zj];omega
 |f+1,k=>by
  simp only[zj];have:=Uj ts es f (k+1);split<;>omega
theorem X2:∀{f:Nat} {k:Int},(∃ j:Nat,1<=j/\j<=f/\yr ts es (vN (k+j))=true)->zj ts es f k<=k+f
 | 0,k,⟨j,i,l,_⟩=>zOm
 |f+1,k,⟨j,i,l,g⟩=>by
  simp only[zj];split
  .omega
  .rename_i o
   have p:j≠1:=fun e=>by subst e;exact o g
   have:=X2 (f:=f) (k:=k+1) ⟨j-1,zOm,zOm,by rw[show k+1+((j-1:Nat):Int)=k+j by omega];exact g⟩;omega
def Free(ts:TS)(es:List (ByteArray×Bool)):Prop:=∀ l:Int,0<=l->∃ j:Nat,1<=j/\j<=ql ts es/\yr ts es (vN (l+j))=true
theorem Yj(g:Free ts es){env:IEnv}{nm:ByteArray}{body:Bool}{s:ISt}(i:0<=s.last):0<=(renI ts es env nm body s).2.last/\(renI ts es env nm body s).2.last<=s.last+(ql ts es:Nat)/\(renI ts es env nm body s).2.cost=s.cost:=by
 unfold renI;split
 .have l:=Uj ts es (ql ts es) s.last
  have j:=X2 (g s.last i);refine⟨?_,j,rfl⟩;show 0<=zj ts es (ql ts es) s.last;omega
 .exact ⟨i,by show s.last<=_;omega,rfl⟩
structure Gos (F:Nat) (s s':ISt) (z:Int):Prop where
 l0:0<=s'.last
 c1:s'.cost<=4000
 z0:0<=z
 cz:s.cost+z<=s'.cost
 p:pot F s<=pot F s'
theorem Gos.ok{s':ISt}{z:Int}(g:Gos F s s' z)(h:StOk F s):StOk F s':=⟨g.l0,by have:=g.cz;have:=g.z0;have:=h.c0;omega,g.c1,zW2 g.p h.p⟩
theorem Qy(F:Nat)(s:ISt)(n:Int):pot F (payS n s)=pot F s+n*F:=by
 unfold pot payS;simp only[Int.add_mul];omega
theorem we(h:StOk F s){n:Int}(g:0<=n)(i:s.cost+n<=4000):Gos F s (payS n s) n:=
 ⟨h.l0,i,g,j9 _,by rw[Qy];have:0<=n*(F:Int):=Int.mul_nonneg g zOm;omega⟩
theorem qkB{n n':Nd}{s':ISt}{z:Int}(h:StOk F s)(j:zl env)(o:s.cost+1<=4000)(e:j0 env n (payS 1 s) = .ok ((n',z),s')):Gos F s s' z:=by
 have hp:=we h (n:=1) zOm o;unfold j0 at e;cases hg:getK n.name env with
 |none=>rw[hg]at e;cases e;exact hp
 |some v =>
  rw[hg]at e;have r:=j.sz _ ((Ql j.nd).1 hg);obtain⟨t,l,I⟩:=v;cases t with
  |none=>cases e;exact hp
  |some a =>
   simp only at e;split at e
   .rename_i C
    have i:0<=l/\l<=4000:=r;cases e;have g:=we (hp.ok h) i.1 C;exact⟨g.l0,g.c1,i.1,zW2 g.cz hp.cz,zW2 g.p hp.p⟩
   .cases e
theorem Uk{E:Nd->ISt->XR (Nd×Int)}:∀{ks:List Nd} {ps:List (ByteArray×Int)} {own i:IEnv} {s s':ISt},(∀ k n' z s s',k∈ks->StOk F s->E k s = .ok ((n',z),s')->Gos F s s' z)->StOk F s->zl own ->
  yF E ps ks own s = .ok (i,s')->zl i/\Gos F s s' 0
 | [],ps,own,i,s,s',_,h,j,e=>by
  have e:Except.ok (own,s)=(Except.ok (i,s'):XR IEnv):=by cases ps<;>exact e
  cases e;exact⟨j,h.l0,h.c1,zOm,zOm,j9 _⟩
 |k :: ks,[],own,i,s,s',_,h,j,e=>by
  cases e;exact⟨j,h.l0,h.c1,zOm,zOm,j9 _⟩
 |k :: ks,p :: ps,own,i,s,s',o,h,j,e=>by
  simp only[yF]at e;split at e
  .cases e
  .rename_i r m s1 t
   have g:=o k r m s s1 (q8 ..) h t;have C:m<=4000:=by have:=g.cz;have:=g.c1;have:=h.c0;omega
   obtain⟨I,l⟩:=Uk (fun k n' z s s' J=>o k n' z s s' (qY _ J)) (g.ok h) (j.set (v:=⟨some r,m,⟨#[]⟩⟩) ⟨g.z0,C⟩) e;exact⟨I,l.l0,l.c1,zOm,by have:=g.cz;have:=g.z0;have:=l.cz;omega,zW2 g.p l.p⟩
def dueN(F:Nat)(bin:Bool)(i:Nat):Int:=if bin=true/\i<=1 then F else 0
theorem ZG(F:Nat)(bin:Bool)(i:Nat):0<=dueN F bin i:=by unfold dueN;split<;>omega
theorem Ul{bin:Bool}{i:Nat}(h:¬(bin=true/\i=1)):dueN F bin i=dueN F bin (i+1):=by
 unfold dueN;by_cases g:bin=true
 .by_cases j:i=1
  .exact absurd ⟨g,j⟩ h
  .by_cases l:i<=1
   .rw [if_pos ⟨g,l⟩,if_pos ⟨g,zOm⟩]
   .rw [if_neg zOm,if_neg zOm]
 .rw [if_neg (fun h=>g h.1),if_neg (fun h=>g h.1)]
theorem my{E:IEnv->Nd->ISt->XR (Nd×Int)}{R:IEnv->ByteArray->ISt->(IEnv×ByteArray)×ISt}{bin:Bool}(U:∀ env nm s,0<=s.last->zl env->zl (R env nm s).1.1/\0<=(R env nm s).2.last/\(R env nm s).2.last<=s.last+(F:Int)/\(R env nm s).2.cost=s.cost) :
  ∀{ks:List Nd} {i:Nat} {env:IEnv} {nm nm':ByteArray} {s s':ISt} {l:List Nd} {m:Int},(∀ env k n' z s s',k∈ks->StOk F s->zl env->E env k s = .ok ((n',z),s')->Gos F s s' z)->0<=s.last->0<=s.cost->s.cost<=4000->dueN F bin i<=pot F s->zl env ->
  ya E R bin i env nm ks s = .ok ((nm',l,m),s')->0<=s'.last/\s'.cost<=4000/\0<=m/\s.cost+m<=s'.cost/\pot F s-dueN F bin i<=pot F s'
 | [],i,env,nm,nm',s,s',l,m,_,t,c0,c1,hp,I,e=>by
  cases e;have:=ZG F bin i;exact⟨t,c1,zOm,zOm,zOm⟩
 |k :: ks,i,env,nm,nm',s,s',l,m,hE,t,c0,c1,hp,I,e=>by
  simp only[ya]at e;obtain⟨r,o⟩:∃ r,r=if bin=true/\i=1 then R env nm s else ((env,nm),s):=⟨_,rfl⟩
  rw[<-o]at e;have J:zl r.1.1/\0<=r.2.last/\r.2.cost=s.cost/\dueN F bin (i+1)<=pot F r.2/\pot F s-dueN F bin i<=pot F r.2-dueN F bin (i+1):=by
   by_cases C:bin=true/\i=1
   .rw [if_pos C]at o
    obtain⟨a1,a2,a3,a4⟩:=U env nm s t I;have d1:dueN F bin i=F:=if_pos ⟨C.1,zOm⟩;have d2:dueN F bin (i+1)=0:=if_neg zOm;subst o;have a0:pot F s-F<=pot F (R env nm s).2:=by unfold pot;rw[a4];omega
    rw[d1]at hp;rw[d1,d2];exact⟨a1,a2,a4,zOm,zOm⟩
   .rw [if_neg C]at o
    subst o;have d':dueN F bin i=dueN F bin (i+1)\/(bin=true/\i=1):=by
     unfold dueN;by_cases j:bin=true
     .by_cases P:i=1
      .exact .inr ⟨j,P⟩
      .left
       by_cases h0:i<=1
       .rw [if_pos ⟨j,h0⟩,if_pos ⟨j,zOm⟩]
       .rw [if_neg zOm,if_neg zOm]
     .left;rw[if_neg (fun h=>j h.1),if_neg (fun h=>j h.1)]
    have a5:dueN F bin i=dueN F bin (i+1):=d'.elim id fun h=>absurd h C
    exact⟨I,t,rfl,by show _<=pot F s;omega,by show _<=pot F s-_;omega⟩
  obtain⟨b1,b2,b3,b4,b5⟩:=J;split at e
  .cases e
  .rename_i k' m1 s1 P
   have T:StOk F r.2:=⟨b2,zOm,zOm,zW1 (ZG F bin (i+1))⟩;have g:=hE r.1.1 k k' m1 r.2 s1 (q8 ..) T b1 P;split at e
   .cases e
   .rename_i a6 a7 m2 s2 h2
    have:=my U (fun env k n' z s s' hk=>hE env k n' z s s' (qY _ hk)) g.l0 (zW2 g.cz g.z0) g.c1 (zW1 g.p) b1 h2;obtain⟨q1,q2,q3,q4,q5⟩:=this;cases e;have:=g.cz;have:=g.z0;have:=g.p;exact⟨q1,q2,zOm,zOm,zOm⟩
theorem yZ(ts:TS){es:List (ByteArray×Bool)}(g:Free ts es):∀(f:Nat) {env:IEnv} {n n':Nd} {body:Bool} {s s':ISt} {z:Int},StOk (ql ts es) s->zl env->expI ts es f env n body s = .ok ((n',z),s')->Gos (ql ts es) s s' z
 | 0,_,_,_,_,_,_,_,_,_,e=>by cases e
 |f+1,env,n,n',body,s,s',z,h,o,e=>by
  simp only[expI]at e;split at e
  .rename_i J
   have hp:=we h (n:=1) zOm J;split at e
   .exact qkB h o J e
   .split at e
    .split at e
     .cases e
     .rename_i p _
      .obtain ⟨own,s1,r,e⟩:=Qx e
       obtain⟨P,g1⟩:=Uk (F:=ql ts es) (fun k n' z s s' _ t C=>yZ ts g f t o C) (hp.ok h) .nil r;have i:=yZ ts g f (g1.ok (hp.ok h)) P e;exact⟨i.l0,i.c1,i.z0,by have:=i.cz;have:=g1.cz;have:=hp.cz;omega,by have:=i.p;have:=g1.p;have:=hp.p;omega⟩
    ·.obtain ⟨⟨j,l,m⟩,s1,r,e⟩:=Qx e
      cases e;have R:dueN (ql ts es) (binB n.op) 0<=pot (ql ts es) (payS 1 s):=by
       rw[Qy];have:=h.p;unfold dueN;split<;>omega
      have:=my (F:=ql ts es) (fun env nm s T I=>⟨Yi I,Yj g T⟩) (fun env k n' z s s' _ t I C=>yZ ts g f t I C) hp.l0 (by have:=(hp.ok h).c0;exact this) hp.c1 R o r;obtain⟨U,q2,q3,q4,q5⟩:=this;have a0:dueN (ql ts es) (binB n.op) 0<=(ql ts es:Nat):=by unfold dueN;split<;>omega
      rw[Qy]at q5;have a1:0<=(j,l,m).snd.snd:=q3;have a2:(payS 1 s).cost+(j,l,m).snd.snd<=s'.cost:=q4;exact⟨U,q2,zOm,zW1 hp.cz,zOm⟩
  .cases e
end
end YC
namespace YD
open YM YF P1 P2 Y1 Y2 Y6 Y7 Y9 Y10 Y13 YX YZ YB PA YC
section
variable {mu:Mu}{b:Nat}
theorem qkC(p:Pd)(n:Nd):qd qb 220 [.agg (cPd p),.ip (cNd n)] (aB (decide (p.name=n.name))):=by
 refine qd.of_sound (qe.of_awp call220 func220 rfl (qh zKr) zKr (pl:={}) ?_);by_cases h:p.name=n.name
 .simp [go_sem,h]
  exact .zsc _
 .simp [go_sem,h,jA h]
  exact .zsc _
def endE(ts:TS)(tb:Nat)(mu:Mu)(xb:Nat)(r:XR (Nd×Int))(e:AEnd)(m:Mu):Prop:=
 match r with
 | .ok ((n,k),s)=>e = .ret (.tup [eNd n,aI k])/\m[xb]?=some (.arr (cIn ts tb s))/\But xb mu m
 | .error d=>e = .pan (jz d.1 d.2)/\But xb mu m
def IHE(ts : TS)(es : List (ByteArray × Bool))(tb f : Nat) : Prop := ∀ (env : IEnv) (n : Nd) (i : Bool) (s : ISt) (C : Mu) (g : Nat), 4000 < s.cost + f->StOk (ql ts es) s->zl env->WfN n->yG ts n->C[g]? = some (.arr (cIn ts tb s))->C[tb]? = some (.mp (eSet es)) ->
      qe qb 144 [.ptr g 0,eEnv env,eNd n,aB i] C (endE ts tb C g (expI ts es f env n i s))
structure M0 (ts:TS) (es:List (ByteArray×Bool)) (tb:Nat) (mu:Mu) (xb:Nat) (n:Nd) (s:ISt) (M:Mu):Prop where
 len:M.length=mu.length+2
 x:M[xb]?=some (.arr (cIn ts tb s))
 t:M[tb]?=some (.mp (eSet es))
 n:M[mu.length]?=some (.arr (cNd n))
 r:M[mu.length+1]?=some (.arr [aI 0,aS ⟨#[]⟩,aI 0,.lst true [],aI 0])
 but:But xb mu M
theorem M0.of{ts:TS}{es:List (ByteArray×Bool)}{tb:Nat}{xb:Nat}{n:Nd}{s s':ISt}(hx:mu[xb]?=some (.arr (cIn ts tb s)))(g:mu[tb]?=some (.mp (eSet es))) :
  M0 ts es tb mu xb n s' ((mu++[Cell.arr (cNd n),Cell.arr [aI 0,aS ⟨#[]⟩,aI 0,.lst true [],aI 0]]).set xb (.arr (cIn ts tb s'))):=by
 have l:xb<mu.length:=(qk.1 hx).1;have i:tb<mu.length:=(qk.1 g).1;have j:tb≠xb:=fun e=>by rw[e,hx]at g;cases g
 refine⟨zSp,qJ zSo,?_,?_,?_,(But.app xb mu _).trans (But.setX xb _ _)⟩
 .rw [qv (fun e=>j e.symm),qo i];exact g
 .rw [qv zOm,zf (qm _)];simp
 .rw [qv zOm,zf zOm];simp
theorem qkD(ts:TS)(es:List (ByteArray×Bool))(tb:Nat)(env:IEnv)(n:Nd)(body:Bool)(s:ISt)(mu:Mu)(xb:Nat)(R:StOk (ql ts es) s)(U:zl env)(hx:mu[xb]?=some (.arr (cIn ts tb s)))(ht:mu[tb]?=some (.mp (eSet es)))(C:n.op=1) :
  qe qb 144 [.ptr xb 0,eEnv env,eNd n,aB body] mu (endE ts tb mu xb (if s.cost+1<=4000 then j0 env n (payS 1 s) else .error (2,0))):=by
 have a0:=R.c0;have a1:=R.c1;refine qe.of_awp call144 func144 rfl (qh zKr) zKr (pl:={ mt:=[6] }) ?_;have I:xb<mu.length:=(qk.1 hx).1;simp[go_sem];refine qc.eff0 (payU ts tb s 1 ⟨zOm,zOm⟩ ⟨zOm,zOm⟩ (by rw[qo I];exact hx)) ?_ ?_
 .rintro r m ⟨rfl,e⟩
  by_cases o:s.cost+1<=4000
  .rw [if_pos o]at e⊢
   cases e;have l:=M0.of (s':=payS 1 s) (n:=n) hx ht;generalize a2:(mu++[Cell.arr (cNd n),.arr [aI 0,aS ⟨#[]⟩,aI 0,.lst true [],aI 0]]).set xb (.arr (cIn ts tb (payS 1 s)))=M at *
   simp[go_sem,l.n,C];have i:=qjK ts tb (payS 1 s) ⟨by show _<=s.cost+1;omega,by show s.cost+1<=_;omega⟩ env U.nd (fun e hm=>zW1 (U.sz e hm)) n l.x;generalize j0 env n (payS 1 s)=Q at *
   have a3:=l.len;cases Q with
   |error d =>
    refine qc.eff0 i (by rintro r m ⟨e,_⟩;cases e) ?_;rintro r m ⟨e,g,j⟩;cases e;simp[go_sem];exact⟨rfl,l.but.trans ⟨j,g⟩⟩
   |ok q =>
    obtain⟨⟨n',k'⟩,s'⟩:=q;refine qc.eff0 i ?_ (by rintro r m ⟨e,_⟩;cases e);rintro r m ⟨e,J,g,j⟩;cases e;have P:m[mu.length+1]?=some (.arr [aI 0,aS ⟨#[]⟩,aI 0,.lst true [],aI 0]):=by rw[g _ zOm zOm];exact l.r
    have p:mu.length+1<m.length:=zOm;have t:∀ c,(m.set (mu.length+1) c)[mu.length+1]?=some c:=fun c=>qJ p
    simp[go_sem,P,t];exact⟨rfl,by rw[qv zOm];exact J,(l.but.trans ⟨j,g⟩).setN zOm _⟩
  .rw [if_neg o]at e;cases e
 .rintro r m ⟨rfl,e⟩
  by_cases o:s.cost+1<=4000
  .rw [if_pos o]at e;cases e
  .rw [if_neg o]at e⊢
   cases e;simp[go_sem];exact⟨rfl,(But.app xb mu _).trans (But.setX xb _ _)⟩
theorem mz{cs:List AV}(i:mu[b]?=some (.arr cs))(h:∀ c,c∈cs->HF c):Rd mu (.ptr b 0) (.ip cs):=
 .ptr b 0 cs cs i zSp fun k x y hx g=>by
  rw[yy]at hx;rw[hx]at g;cases g;exact .hf _ (h _ (qV hx))
abbrev AP:=Nat×Int×Nd
abbrev eAP(a:AP):AV := .agg [.ptr a.1 0,aI a.2.1,aS ⟨#[]⟩]
abbrev ivA(a:AP):IV:=⟨some a.2.2,a.2.1,⟨#[]⟩⟩
abbrev ownA(acc:List (ByteArray×AP)):IEnv:=acc.map fun e=>(e.1,ivA e.2)
theorem X3{i J j:Type} [DecidableEq i] (g:J->j) (k:i) (v:J):∀ es:List (i×J),(setK k v es).map (fun e=>(e.1,g e.2))=setK k (g v) (es.map fun e=>(e.1,g e.2))
 | []=>rfl
 |e :: es=>by
  simp only[setK,yc];split
  .rfl
  .rw [yc,X3 g k v es]
theorem updAP{es:List (ByteArray×AP)}(i:mu[b]?=some (.mp (encK aS eAP es)))(nm:ByteArray)(v:AP) :
  jt qb mu 212 (.mp b) (aS nm) (eAP v)=some (mu.set b (.mp (encK aS eAP (setK nm v es)))):=
 keyS.update (et:=292) (t:=212) zSi (mu:=mu) (b:=b) (venc:=eAP) (es:=es) i (k:=nm) (v:=v) trivial (fun _ _=>trivial)
theorem mA{acc:List (ByteArray×AP)}(l:mu[b]?=some (.mp (encK aS eAP acc)))(o:(acc.map Prod.fst).Nodup)(p:∀ e,e∈acc->mu[e.2.1]?=some (.arr (cNd e.2.2.2))):Rd mu (.mp b) (eEnv (ownA acc)):=by
 have j:((ownA acc).map Prod.fst).Nodup:=by
  have e:(ownA acc).map Prod.fst=acc.map Prod.fst:=by simp[ownA]
  rw[e];exact o
 have get:∀(k:Nat) (x y:AV×AV),(encK aS eAP acc)[k]?=some x->(encK aS eIV (ownA acc))[k]?=some y->∃ e,e∈acc/\x=(aS e.1,eAP e.2)/\y=(aS e.1,eIV (ivA e.2)):=fun k x y hx g=>by
  rw[zu,j8]at hx;obtain⟨e,i,rfl⟩:=hx;rw[zu,zu,i]at g;simp only[zd,qp]at g;exact⟨e,qV i,rfl,g.symm⟩
 refine .ims _ _ _ id id (PIx.refl _) (X1 j) (.mp b _ _ l zSp (fun k x y hx g=>?_) (fun k x y hx g=>?_))
 .obtain ⟨e,i,rfl,rfl⟩:=get k x y hx g
  exact .zsc _
 .obtain ⟨e,i,rfl,rfl⟩:=get k x y hx g
  refine .agg _ _ rfl fun k x y hx g=>?_
  match k with
  | 0 =>
   simp at hx g;subst hx;subst g;exact mz (p e i) (jy _)
  | 1=>simp at hx g;subst hx;subst g;exact .zsc _
  | 2=>simp at hx g;subst hx;subst g;exact .zsc _
  |k+3=>simp at hx
theorem qkE{ps:List Pd}{g:Pd->Bool}{p:Pd}(h:ps.find? g=some p):∃ i,∃ l:i<ps.length,ps[i]=p/\idxI ps g=i:=by
 rw[List.find?_eq_some_iff_getElem]at h;obtain⟨hg,i,l,e,r⟩:=h;refine⟨i,l,e,WZ l (by rw[e];exact hg) fun j t o=>by simpa using r j o⟩
theorem qkF(ts:TS)(h:okTS ts)(hb:∀ p,p∈ts.preds->WfN p.body/\yG ts p.body)(es:List (ByteArray×Bool))(hF:ql ts es<=200000)(b3:Free ts es)(tb f:Nat)(ih:IHE ts es tb f)(env:IEnv)(n:Nd)(body:Bool)(s:ISt)(mu:Mu)(xb:Nat)
  (hc:4000<s.cost+(f+1:Nat)) (hs:StOk (ql ts es) s) (he:zl env) (hw:WfN n) (aq:yG ts n) (hx:mu[xb]?=some (.arr (cIn ts tb s))) (ht:mu[tb]?=some (.mp (eSet es))) (ag:n.op=47) :
  qe qb 144 [.ptr xb 0,eEnv env,eNd n,aB body] mu (endE ts tb mu xb (expI ts es (f+1) env n body s)):=by
 have bs:=hs.c0;have bt:=hs.c1;generalize P:expI ts es (f+1) env n body s=R;simp only[expI,ag]at P;obtain⟨p,hp,b4⟩:=aq n (jQ n) ag;rw[hp]at P;refine qe.of_awp call144 func144 rfl (qh zKr) zKr (pl:={ mt:=[6] }) ?_;have b5:xb<mu.length:=(qk.1 hx).1;have b6:tb<mu.length:=(qk.1 ht).1;simp[go_sem];refine qc.eff0 (payU ts tb s 1 ⟨zOm,zOm⟩ ⟨zOm,zOm⟩ (by rw[qo b5];exact hx)) ?_ ?_
 .rintro r m ⟨rfl,e⟩
  by_cases a5:s.cost+1<=4000
  .rw [if_pos a5]at e P
   cases e;have hM:=M0.of (s':=payS 1 s) (n:=n) hx ht;generalize bu:(mu++[Cell.arr (cNd n),.arr [aI 0,aS ⟨#[]⟩,aI 0,.lst true [],aI 0]]).set xb (.arr (cIn ts tb (payS 1 s)))=M at *
   have b7:=hM.len;simp[go_sem,hM.n,ag];refine qg.fz (FzQ.one (b:=mu.length) (d:=6) (x := .ip (cNd n)) ?_ ?_)
   .simp [go_sem]
    exact mz (by rw[vK zSp];exact hM.n) (jy n)
   have ab:(cutM (fun j=>!(j == mu.length)) M 0)[xb]?=some (.arr (cIn ts tb (payS 1 s))):=by rw[vK zSo];exact hM.x
   have br:(cutM (fun j=>!(j == mu.length)) M 0)[tb]?=some (.mp (eSet es)):=by rw[vK zSo];exact hM.t
   have ar:(cutM (fun j=>!(j == mu.length)) M 0)[mu.length+1]?=some (.arr [aI 0,aS ⟨#[]⟩,aI 0,.lst true [],aI 0]):=by rw[vK zSp];exact hM.r
   have au:But xb mu (cutM (fun j=>!(j == mu.length)) M 0):=hM.but.cut fun i hi=>zSo
   have a4:(cutM (fun j=>!(j == mu.length)) M 0).length=mu.length+2:=by rw[jr];exact b7
   simp only[qP];generalize cutM (fun j=>!(j == mu.length)) M 0=M1 at *
   refine qg.intro zKr ?_;simp[go_sem,ab];obtain⟨i,hi,b8,av⟩:=qkE hp;have b9:Jk qb (.fn (.func 220) [] [.ip (cNd n)]) ts.preds (fun x => .agg (cPd x)) (fun p=>decide (p.name=n.name)):=⟨_,_,_,rfl,fun p hp=>⟨_,qkC p n,.zk (HF.agg (VQ p)) (.zk (Jw n) .nil)⟩⟩;refine qc.pure (W0 false ts.preds _ (fun p=>decide (p.name=n.name)) b9 (zW1 h.np)) (.zk (wR _) (.zk (HF.fn zSp (fun x hx=>by simp at hx;subst hx;exact Jw n)) .nil)) ?_;rw[av];have bb:p∈ts.preds:=List.mem_of_find?_eq_some hp;obtain⟨bc,be⟩:=hb p bb;have aw:=hw.len;have a9:=Qo p;simp[go_sem,hi,b8,a9];have ax:StOk (ql ts es) (payS 1 s):=(we hs zOm a5).ok hs;have P:vq (yF (fun k s=>expI ts es f env k body s) p.params n.kids [] (payS 1 s)) (fun own s'=>expI ts es f own p.body true s')=R:=zUs P;generalize hQ:yF (fun k s=>expI ts es f env k body s) p.params n.kids [] (payS 1 s)=Q at *
   refine qn.upK n.kids.length (fun k U=>∃(o:List (ByteArray×AP)) (s2:ISt),U.tm 0 = .ptr xb 0/\U.tm 1=eEnv env/\U.tm 3=aB body/\U.tm 8 = .ptr (mu.length+1) 0/\U.tm 10 = .ptr (mu.length+2) 0/\U.tm 11 = .mp (mu.length+3)/\U.tm 52=lNd n.kids/\U.tm 53=aI n.kids.length/\U.tm 54=aI k /\
    But xb mu U.mu/\mu.length+3<U.mu.length/\U.mu[xb]?=some (.arr (cIn ts tb s2))/\U.mu[mu.length+1]?=some (.arr [aI 0,aS ⟨#[]⟩,aI 0,.lst true [],aI 0])/\U.mu[mu.length+2]?=some (.arr (cPd p))/\U.mu[mu.length+3]?=some (.mp (encK aS eAP o)) /\
    (∀ e,e∈o->mu.length+3<e.2.1/\e.2.1<U.mu.length/\U.mu[e.2.1]?=some (.arr (cNd e.2.2.2)))/\zl (ownA o)/\(o.map Prod.fst).Nodup/\StOk (ql ts es) s2/\s.cost+1<=s2.cost/\yF (fun k s=>expI ts es f env k body s) (p.params.drop k) (n.kids.drop k) (ownA o) s2=Q) ?_ ?_
   .refine ⟨[],payS 1 s,zSi,zSi,zSi,zSi,by simp[go_sem,a4],by simp[go_sem,a4],zSi,zSi,zSi,?_,?_,?_,?_,?_,?_,zSp,.nil,zSp,ax,by show _<=s.cost+1;omega,zUs hQ⟩
    all_goals simp only[qP]
    .exact au.trans (But.app xb M1 _)
    .simp;omega
    .rw [qo zOm];exact ab
    .rw [qo zOm];exact ar
    .rw [zf zOm];simp[a4]
    .rw [zf zOm];simp[a4]
   .rintro k U hk ⟨o,s2,e0,e1,e3,e8,ah,ai,ay,aj,ak,I,hl,gx,gr,gp,gm,ad,ae,al,a6,bg,hI⟩
    have az:U.mu[tb]?=some (.mp (eSet es)):=by rw[I.same tb b6 (fun e=>by rw[e,hx]at ht;cases ht)];exact ht
    by_cases aw:k=n.kids.length
    .subst aw
     simp[go_sem,e0,ah,ai,aj,ak,gp];rw[yk,List.drop_of_length_le zOm]at hI;have hI:Q = .ok (ownA o,s2):=hI.symm;rw[hI]at P;have P:expI ts es f (ownA o) p.body true s2=R:=P;have a7:∀ i,i<mu.length+3->(cutM (fun i=>!decide (mu.length+3<=i)) U.mu 0)[i]?=U.mu[i]?:=fun i hi=>vK zSo
     have g:=ih (ownA o) p.body true s2 (cutM (fun i=>!decide (mu.length+3<=i)) U.mu 0) xb zOm a6 ae bc be (by rw[a7 _ zOm];exact gx) (by rw[a7 _ zOm];exact az);rw[P]at g;have g:=qe.freeze (mu:=U.mu) (args:=[.ptr xb 0,.mp (mu.length+3),eNd p.body,aB true]) (args1:=[.ptr xb 0,eEnv (ownA o),eNd p.body,aB true]) (fun i=>decide (mu.length+3<=i)) ⟨.inl rfl,.inr (mA (by rw[vK zSp];exact gm) al (fun e he=>by
      obtain⟨a1,a2,a3⟩:=ad e he;rw[vK zSo];exact a3)),.inl rfl,.inl rfl,trivial⟩ g
     cases R with
     |error d =>
      refine qc.eff0 g (by rintro r m ⟨e,_⟩;cases e) ?_;rintro r m ⟨e,C⟩;cases e;simp[go_sem];exact⟨rfl,(I.cut fun i hi=>zSo).trans C⟩
     |ok q =>
      obtain⟨⟨n',k'⟩,s'⟩:=q;refine qc.eff0 g ?_ (by rintro r m ⟨e,_⟩;cases e);rintro r m ⟨e,an,C⟩;cases e;have ao:=C.len;rw[jr]at ao;have b0:mu.length+1<m.length:=zOm;have bi:m[mu.length+1]?=some (.arr [aI 0,aS ⟨#[]⟩,aI 0,.lst true [],aI 0]):=by rw[C.same _ (by rw[jr];omega) zOm,a7 _ zOm];exact gr
      have b1:∀ c,(m.set (mu.length+1) c)[mu.length+1]?=some c:=fun c=>qJ b0
      simp[go_sem,e8,bi,b1];refine⟨rfl,by rw[qv zOm];exact an,?_⟩;exact((I.cut fun i hi=>zSo).trans C).setN zOm _
    .have aa:k<n.kids.length:=by omega
     have w1:qj.wrap ((k:Int)+1)=(k:Int)+1:=qi zOm zOm;have af:k<p.params.length:=zOm;rw[zt aa,zt af]at hI;simp only[yF]at hI;simp[go_sem,e0,e1,e3,ay,aj,ak,aa];have a0:∀ i,i<U.mu.length->(U.mu++[Cell.arr (cNd n.kids[k])])[i]?=U.mu[i]?:=fun i hi=>qo hi
     have b2:n.kids[k]∈n.kids:=qy aa;have g:=ih env n.kids[k] body s2 (U.mu++[Cell.arr (cNd n.kids[k])]) xb zOm a6 he (hw.kid b2) (aq.kid b2) (by rw[a0 _ zOm];exact gx) (by rw[a0 _ zOm];exact az);have bj:∀{n' z s'},expI ts es f env n.kids[k] body s2 = .ok ((n',z),s')->Gos (ql ts es) s2 s' z:=fun e=>yZ ts b3 f a6 he e
     generalize hE:expI ts es f env n.kids[k] body s2=E at *
     cases E with
     |error d =>
      have hI:Q = .error d:=hI.symm;rw[hI]at P;have P:R = .error d:=P.symm;subst P;refine qc.eff0 g (by rintro r m ⟨e,_⟩;cases e) ?_;rintro r m ⟨e,C⟩;cases e;simp[go_sem];exact⟨rfl,I.trans ((But.app xb U.mu _).trans C)⟩
     |ok q =>
      obtain⟨⟨n',k'⟩,s'⟩:=q;have hg:=bj rfl;simp only at hI;refine qc.eff0 g ?_ (by rintro r m ⟨e,_⟩;cases e);rintro r m ⟨e,an,C⟩;cases e;have ao:=C.len;simp only[zc,zG,List.length_nil]at ao;have J:∀ i,i<U.mu.length->i≠xb->m[i]?=U.mu[i]?:=fun i hi bk=>by rw[C.same i zSo bk,a0 i hi]
      have bl:∀ l,(m++l)[mu.length+2]?=some (.arr (cPd p)):=fun l=>by rw[qo zOm,J _ zOm zOm];exact gp
      have bm:∀ l,(m++l)[mu.length+3]?=some (.mp (encK aS eAP o)):=fun l=>by rw[qo zOm,J _ zOm zOm];exact gm
      have hu:=fun l=>updAP (bm l) p.params[k].1 (m.length,k',n')
      simp[go_sem,ah,ai,bl,af];refine OptK.intro _ (hu _) ?_;generalize hN:(m++[Cell.arr (cNd n')]).set (mu.length+3) (.mp (encK aS eAP (setK p.params[k].1 (m.length,k',n') o)))=N;have bv:N.length=m.length+1:=by rw[<-hN];simp
      have a8:∀ i,i<m.length->i≠mu.length+3->N[i]?=m[i]?:=fun i h1 h2=>by rw[<-hN,qv zOm,qo h1]
      have bn:N[mu.length+3]?=some (.mp (encK aS eAP (setK p.params[k].1 (m.length,k',n') o))):=by rw[<-hN,qJ zSo]
      have bo:N[m.length]?=some (.arr (cNd n')):=by rw[<-hN,qv zOm,zf (qm _)];simp
      simp[go_sem,ak,w1];refine⟨aa,Keep.mk' ?_⟩;have bq:k'<=4000:=by have:=hg.cz;have:=hg.c1;have:=a6.c0;omega
      refine⟨setK p.params[k].1 (m.length,k',n') o,s',zS1 e0,zS1 e1,zS1 e3,zS1 e8,zS1 ah,zS1 ai,zS1 ay,zS1 aj,zSi,?_,?_,?_,?_,?_,?_,?_,?_,uV al,hg.ok a6,zW2 hg.cz hg.z0,?_⟩
      all_goals try simp only[qP]
      .refine ⟨zW1 I.len,fun i h1 h2=>?_⟩
       rw[a8 i zOm zOm,J i zOm h2];exact I.same i h1 h2
      .omega
      .rw [a8 _ zOm zOm];exact an
      .rw [a8 _ zOm zOm,J _ zOm zOm];exact gr
      .rw [a8 _ zOm zOm,J _ zOm zOm];exact gp
      .exact bn
      .intro e he
       rcases (Qw al).1 he with rfl|⟨he,_⟩
       .exact ⟨by show _<m.length;omega,by show m.length<_;omega,bo⟩
       .obtain ⟨a1,a2,a3⟩:=ad e he
        exact⟨a1,zOm,by rw[a8 _ zOm zOm,J _ zOm zOm];exact a3⟩
      .unfold ownA
       rw[X3 (fun a:AP=>ivA a)];exact ae.set ⟨hg.z0,bq⟩
      .unfold ownA
       rw[X3 (fun a:AP=>ivA a)];exact hI
  .rw [if_neg a5]at e;cases e
 .rintro r m ⟨rfl,e⟩
  by_cases a5:s.cost+1<=4000
  .rw [if_pos a5]at e;cases e
  .rw [if_neg a5]at e P
   cases e;subst P;simp[go_sem];exact⟨rfl,(But.app xb mu _).trans (But.setX xb _ _)⟩
theorem mB(op:Int):decide (op=15\/op=45\/op=46)=binB op:=by
 unfold binB;by_cases g:op=15<;>by_cases i:op=45<;>by_cases j:op=46<;>simp[g,i,j]
theorem Qz{lo sz:Nat}{mu':Mu}{av:AV}{xs:List (List AV)}(h:OwnF lo mu sz av xs)(l:lo<=mu'.length)(o:∀ i,lo<=i->i<mu.length->mu'[i]?=mu[i]?):OwnF lo mu' sz av xs:=by
 obtain⟨p,g,_⟩:=h;refine⟨?_,g,l⟩;rcases p with rfl|⟨b,rfl,j⟩
 .exact .inl rfl
 .exact .inr ⟨b,rfl,by rw[o b (g b _ _ _ rfl) (qk.1 j).1];exact j⟩
theorem Um(l:List Nd):zy 5 (l.map cNd):=fun r g=>by
 obtain⟨n,_,rfl⟩:=qr.1 g;exact⟨Z2 n,Z3 n⟩
theorem Un{lo:Nat}{s:AV}{xs:List Nd}{k:Nd}{K:AV->Mu->Prop}(g:OwnF lo mu 5 s (xs.map cNd))(r:xs.length<=100000)(o:∀ av mu',OwnF lo mu' 5 av ((xs++[k]).map cNd)->(∀ i,i<lo->mu'[i]?=mu[i]?)->K av mu') :
  qF qb mu #[34,34] s (.lst true [cNd k]) K:=by
 refine qF.ownF (lo:=lo) (e:=36) (sz:=5) (bt:=64) (zv := .agg [aI 0,aS ⟨#[]⟩,aI 0,.lst true [],aI 0]) (xs:=xs.map cNd) (ys:=[cNd k]) zSi zSi zSi rfl rfl zOm zOm g (by simp[qO]) (Um xs) (Um [k]) zSo ?_;intro av mu' h p;exact o av mu' (by rw[List.map_append];exact h) p
theorem qkG(ts:TS)(h:okTS ts)(es:List (ByteArray×Bool))(hF:ql ts es<=200000)(aw:Free ts es)(tb f:Nat)(ih:IHE ts es tb f)(env:IEnv)(n:Nd)(body:Bool)(s:ISt)(mu:Mu)(xb:Nat)
  (hc:4000<s.cost+(f+1:Nat)) (hs:StOk (ql ts es) s) (he:zl env) (hw:WfN n) (bm:yG ts n) (hx:mu[xb]?=some (.arr (cIn ts tb s))) (ht:mu[tb]?=some (.mp (eSet es))) (h1:¬n.op=1) (h47:¬n.op=47) :
  qe qb 144 [.ptr xb 0,eEnv env,eNd n,aB body] mu (endE ts tb mu xb (expI ts es (f+1) env n body s)):=by
 have cw:=hs.c0;have cx:=hs.c1;have cg:xb<mu.length:=(qk.1 hx).1;have ch:tb<mu.length:=(qk.1 ht).1;have br:tb≠xb:=fun e=>by rw[e,hx]at ht;cases ht
 generalize hR:expI ts es (f+1) env n body s=R;simp only[expI,h1,h47,if_false]at hR;refine qe.give ?_;refine qe.of_awp call144 func144 rfl (qh zKr) zKr (pl:={ mt:=[6] }) ?_;simp[go_sem];refine qc.eff0 (payU ts tb s 1 ⟨zOm,zOm⟩ ⟨zOm,zOm⟩ (by rw[qo cg];exact hx)) ?_ ?_
 .rintro r m ⟨rfl,e⟩
  by_cases a6:s.cost+1<=4000
  .rw [if_pos a6]at e hR
   cases e;have hM:=M0.of (s':=payS 1 s) (n:=n) hx ht;generalize cy:(mu++[Cell.arr (cNd n),.arr [aI 0,aS ⟨#[]⟩,aI 0,.lst true [],aI 0]]).set xb (.arr (cIn ts tb (payS 1 s)))=M at *
   have da:=hM.len;have bs:=hw.len;have ax:StOk (ql ts es) (payS 1 s):=(we hs zOm a6).ok hs;have bt:∀ c,(M.set mu.length c)[mu.length]?=some c:=fun c=>qJ zOm
   have cj:=yQ n;simp[go_sem,hM.n,h1,h47,cj];refine qn.upK n.kids.length (fun k U=>∃(I:List Nd) (j:IEnv) (C:ByteArray) (s2:ISt) (t:AV) (z:Int),U.tm 0 = .ptr xb 0/\U.tm 1=eEnv j/\U.tm 3=aB body/\U.tm 6 = .ptr mu.length 0/\U.tm 8 = .ptr (mu.length+1) 0/\U.tm 17=aI z/\U.tm 87=lNd n.kids/\U.tm 88=aI n.kids.length/\U.tm 89=aI k /\
    But xb mu U.mu/\U.mu[xb]?=some (.arr (cIn ts tb s2))/\U.mu[mu.length+1]?=some (.arr [aI 0,aS ⟨#[]⟩,aI 0,.lst true [],aI 0])/\U.mu[mu.length]?=some (.arr [aI n.op,aS C,aI n.n,t,aI n.pos])/\OwnF (mu.length+2) U.mu 5 t (I.map cNd)/\zl j/\I.length=k /\
    0<=s2.last/\0<=s2.cost/\s2.cost<=4000/\dueN (ql ts es) (binB n.op) k<=pot (ql ts es) s2/\s.cost+1<=s2.cost/\1<=z/\z<=s2.cost-s.cost /\
    vq (ya (fun env k s=>expI ts es f env k body s) (fun env nm s=>renI ts es env nm body s) (binB n.op) k j C (n.kids.drop k) s2) (fun r s' => .ok ((.mk n.op r.1 n.n (I++r.2.1) n.pos,z+r.2.2),s'))=R) ?_ ?_
   .refine ⟨[],env,n.name,payS 1 s,.lst true [],1,zSi,zSi,zSi,zSi,zSi,zSi,zSi,zSi,zSi,?_,?_,?_,?_,?_,he,rfl,ax.l0,ax.c0,ax.c1,?_,by show _<=s.cost+1;omega,zOm,by show _<=s.cost+1-_;omega,zUs hR⟩
    all_goals try simp only[qP]
    .exact hM.but.setN (qm _) _
    .rw [qv zOm];exact hM.x
    .rw [qv zOm];exact hM.r
    .exact bt _
    .exact OwnF.nil zSo
    .rw [Qy];have:=hs.p;unfold dueN;split<;>omega
   .rintro k U hk ⟨I,j,C,s2,t,z,e0,e1,e3,e6,e8,bc,ao,ag,ah,a8,gx,gr,gn,go,be,db,aq,bg,bh,bj,ai,dc,bn,hI⟩
    have gt:U.mu[tb]?=some (.mp (eSet es)):=by rw[a8.same tb ch br];exact ht
    have cv:mu.length+2<=U.mu.length:=go.2.2;by_cases bs:k=n.kids.length
    .subst bs
     have bu:=go.cells;have bk:=go.one;have bo:∀ c,(U.mu.set (mu.length+1) c)[mu.length+1]?=some c:=fun c=>qJ zOm
     rw[yk]at hI;have hI:R = .ok ((.mk n.op C n.n I n.pos,z),s2):=by rw[<-hI];simp[ya,vq]
     simp[go_sem,e6,e8,bc,ag,ah,gn,gr,bk,bo];rw[hI];have bq:(U.mu.set (mu.length+1) (.arr [aI n.op,aS C,aI n.n,t,aI n.pos])).length=U.mu.length:=zSp;refine .inr ⟨fun i=>decide (mu.length+2<=i),.tup [eNd (.mk n.op C n.n I n.pos),aI z],.rd _ _ (.tup _ _ rfl fun k x y hx hy=>?_),rfl,?_,?_⟩
     .match k with
      | 0 =>
       simp at hx hy;subst hx;subst hy;have ck:eNd (.mk n.op C n.n I n.pos) = .agg [aI n.op,aS C,aI n.n,.lst false (I.map cNd),aI n.pos]:=by
        show AV.agg (cNd _)=_;rw[yQ];rfl
       rw[ck];refine .agg _ _ rfl fun k x y hx hy=>?_
       match k with
       | 0=>simp at hx hy;subst hx;subst hy;exact .zsc _
       | 1=>simp at hx hy;subst hx;subst hy;exact .zsc _
       | 2=>simp at hx hy;subst hx;subst hy;exact .zsc _
       | 3 =>
        simp at hx hy;subst hx;subst hy;exact XL (go.set zOm) (Um I).ok fun r hr c hc=>by
         obtain⟨x,_,rfl⟩:=qr.1 hr;exact jy x c hc
       | 4=>simp at hx hy;subst hx;subst hy;exact .zsc _
       |k+5=>simp at hx
      | 1=>simp at hx hy;subst hx;subst hy;exact .zsc _
      |k+2=>simp at hx
     .rw [vK zSo,qv zOm];exact gx
     .exact (a8.setN zOm _).cut fun i hi=>zSo
    .have a4:k<n.kids.length:=by omega
     have w1:qj.wrap ((k:Int)+1)=(k:Int)+1:=qi zOm zOm;have w2:qj.wrap 2=2:=rfl;rw[zt a4]at hI;simp only[ya]at hI;have g:∀(l:List Cell) (i:Nat),i<U.mu.length->(U.mu++l)[i]?=U.mu[i]?:=fun l i hi=>qo hi
     have ar:∀ l,(U.mu++l)[mu.length]?=some (.arr [aI n.op,aS C,aI n.n,t,aI n.pos]):=fun l=>by rw[g l _ zOm];exact gn
     have bu:=go.cells;have bk:=go.one;by_cases hb:binB n.op=true/\k=1
     .obtain ⟨ay,rfl⟩:=hb
      rw[if_pos ⟨ay,rfl⟩]at hI;have az:(1:Int)<n.kids.length:=zOm;simp[go_sem,az,e6,ao,ag,ah,a4,ar];have b0:=YX.nR n.op;rw[mB,ay]at b0;refine qc.pure b0 (.zs .nil) ?_;have cl:=StOk.last (F:=ql ts es) ⟨aq,bg,bh,zW1 (ZG (ql ts es) (binB n.op) 1)⟩;have bv:=qkA ts h s2 es ⟨aq,zOm⟩ tb (aw _ aq) j be.nd C body (mu:=U.mu++[Cell.arr (cNd n.kids[1])]) (xb:=xb) (by rw[g _ _ zOm];exact gx) (by rw[g _ _ zOm];exact gt);have aj:=Yj (env:=j) (nm:=C) (body:=body) aw aq;have bw:=Yi (ts:=ts) (es:=es) (nm:=C) (body:=body) (s:=s2) be;generalize renI ts es j C body s2=r at *
      obtain⟨⟨a5,au⟩,s3⟩:=r;simp only at aj bw hI;simp[go_sem,e0,e1,e3,e6,ar];refine qc.eff0 bv ?_ (by rintro r m ⟨e,_⟩;cases e);rintro r m1 ⟨e,a7,cm⟩;cases e;have ca:=a7.len;simp only[zc,zG,List.length_nil]at ca;have cn:m1[mu.length]?=some (.arr [aI n.op,aS C,aI n.n,t,aI n.pos]):=by rw[a7.same _ zSo zOm];exact ar _
      have cp:m1[mu.length+1]?=some (.arr [aI 0,aS ⟨#[]⟩,aI 0,.lst true [],aI 0]):=by rw[a7.same _ zSo zOm,g _ _ zOm];exact gr
      have cq:m1[U.mu.length]?=some (.arr (cNd n.kids[1])):=by rw[a7.same _ zSp zOm,zf (qm _)];simp
      have cr:m1[tb]?=some (.mp (eSet es)):=by rw[a7.same _ zSo br,g _ _ zOm];exact gt
      have cs:OwnF (mu.length+2) m1 5 t (I.map cNd):=Qz go zOm fun i q1 q2=>by rw[a7.same i zSo zOm,g _ _ q2]
      have al:∀ c i,i≠mu.length->(m1.set mu.length c)[i]?=m1[i]?:=fun c i hi=>qv (fun e=>hi e.symm)
      have ct:∀ c,(m1.set mu.length c)[U.mu.length]?=some (.arr (cNd n.kids[1])):=fun c=>by rw[al _ _ zOm];exact cq
      simp[go_sem,e0,e3,e6,cn,ct];generalize ak:m1.set mu.length (.arr [aI n.op,aS au,aI n.n,t,aI n.pos])=M2;have bl:U.mu.length+1<=M2.length:=by rw[<-ak];simp;omega
      have b1:M2[xb]?=some (.arr (cIn ts tb s3)):=by rw[<-ak,al _ _ zOm];exact cm
      have b2:M2[tb]?=some (.mp (eSet es)):=by rw[<-ak,al _ _ zOm];exact cr
      have b3:M2[mu.length]?=some (.arr [aI n.op,aS au,aI n.n,t,aI n.pos]):=by rw[<-ak];exact qJ zOm
      have b4:M2[mu.length+1]?=some (.arr [aI 0,aS ⟨#[]⟩,aI 0,.lst true [],aI 0]):=by rw[<-ak,al _ _ zOm];exact cp
      have a3:OwnF (mu.length+2) M2 5 t (I.map cNd):=by rw[<-ak];exact cs.set zOm
      have a9:But xb mu M2:=by
       rw[<-ak];exact(a8.trans ((But.app xb U.mu _).trans a7)).setN (qm _) _
      have dd:dueN (ql ts es) (binB n.op) 1=(ql ts es:Nat):=if_pos ⟨ay,zOm⟩;have de:dueN (ql ts es) (binB n.op) (1+1)=0:=if_neg zOm;have df:pot (ql ts es) s2-(ql ts es:Nat)<=pot (ql ts es) s3:=by unfold pot;rw[aj.2.2];omega
      have a2:StOk (ql ts es) s3:=⟨aj.1,by rw[aj.2.2];exact bg,by rw[aj.2.2];exact bh,zOm⟩;have b5:dueN (ql ts es) (binB n.op) (1+1)<=pot (ql ts es) s3:=zOm;have an:s.cost+1<=s3.cost:=by rw[aj.2.2];exact ai
      have cb:z<=s3.cost-s.cost:=by rw[aj.2.2];exact bn
      have J:zl a5:=bw;have bi:True:=trivial;have aa:n.kids[1]∈n.kids:=qy a4;have P:=ih a5 n.kids[1] body s3 M2 xb zOm a2 J (hw.kid aa) (bm.kid aa) b1 b2;have b6:∀{n' z s'},expI ts es f a5 n.kids[1] body s3 = .ok ((n',z),s')->Gos (ql ts es) s3 s' z:=fun e=>yZ ts aw f a2 J e
      generalize hE:expI ts es f a5 n.kids[1] body s3=E at *
      cases E with
      |error d =>
       have hI:R = .error d:=hI.symm;subst hI;refine qc.eff0 P (by rintro r m ⟨e,_⟩;cases e) ?_;rintro r m ⟨e,o⟩;cases e;simp[go_sem];exact⟨rfl,a9.trans o⟩
      |ok q =>
       obtain⟨⟨n',k'⟩,s'⟩:=q;have hg:=b6 rfl;simp only at hI;refine qc.eff0 P ?_ (by rintro r m ⟨e,_⟩;cases e);rintro r m ⟨e,b7,o⟩;cases e;have bq:=o.len;have ab:∀ l,(m++l)[mu.length]?=some (.arr [aI n.op,aS au,aI n.n,t,aI n.pos]):=fun l=>by rw[qo zOm,o.same _ zOm zOm];exact b3
       have a6:=a3.cells;have cc:=a3.one;have b8:qj.wrap (z+k')=z+k':=qi (zW1 hg.z0) (zW2 hg.cz hg.c1);have b9:OwnF (mu.length+2) (m++[Cell.arr (cNd n')]) 5 t (I.map cNd):=Qz a3 zSo fun i h1 h2=>by rw[qo zOm,o.same i zOm zOm]
       simp[go_sem,e6,ab];refine Un b9 zOm fun bb m' a0 a1=>?_
       have cd:=a0.2.2;have ad:m'[mu.length]?=some (.arr [aI n.op,aS au,aI n.n,t,aI n.pos]):=by rw[a1 _ zOm];exact ab _
       have ae:=a0.cells;have af:=a0.one;simp[go_sem,e6,bc,ah,ad,ae,af,b8,w2];refine⟨a4,Keep.mk' ?_⟩;refine⟨I++[n'],a5,au,s',bb,z+k',zS1 e0,zSi,zS1 e3,zS1 e6,zS1 e8,zSi,zS1 ao,zS1 ag,zSi,?_,?_,?_,?_,?_,J,zSo,hg.l0,zW2 hg.cz hg.z0,hg.c1,Int.le_trans b5 hg.p,zW2 hg.cz hg.z0,zW1 hg.z0,zW1 hg.cz,?_⟩
       all_goals try simp only[qP]
       .refine ⟨zSo,fun i h1 h2=>?_⟩
        rw[qv zOm,a1 i zOm,qo zOm,o.same i zOm h2];exact a9.same i h1 h2
       .rw [qv zOm,a1 _ zOm,qo zOm];exact b7
       .rw [qv zOm,a1 _ zOm,qo zOm,o.same _ zOm zOm];exact b4
       .exact qJ zOm
       .exact a0.set zOm
       .rw [<-hI]
        generalize ya (fun env k s=>expI ts es f env k body s) (fun env nm s=>renI ts es env nm body s) (binB n.op) (1+1) a5 au (n.kids.drop (1+1)) s'=W;cases W with
        |error e=>rfl
        |ok q=>simp[vq,Int.add_assoc]
     .rw [if_neg hb]at hI
      by_cases cu:k=1
      .subst cu
       have a7:binB n.op=false:=zUs hb;have az:(1:Int)<n.kids.length:=zOm;simp[go_sem,az,e6,ao,ag,ah,a4,ar];have b0:=YX.nR n.op;rw[mB,a7]at b0;refine qc.pure b0 (.zs .nil) ?_;simp[go_sem,e0,e1,e3];have bl:U.mu.length+1<=(U.mu++[Cell.arr (cNd n.kids[1])]).length:=zSp;have b1:(U.mu++[Cell.arr (cNd n.kids[1])])[xb]?=some (.arr (cIn ts tb s2)):=by rw[g _ _ zOm];exact gx
       have b2:(U.mu++[Cell.arr (cNd n.kids[1])])[tb]?=some (.mp (eSet es)):=by rw[g _ _ zOm];exact gt
       have b3:=ar [Cell.arr (cNd n.kids[1])];have b4:(U.mu++[Cell.arr (cNd n.kids[1])])[mu.length+1]?=some (.arr [aI 0,aS ⟨#[]⟩,aI 0,.lst true [],aI 0]):=by rw[g _ _ zOm];exact gr
       have a3:OwnF (mu.length+2) (U.mu++[Cell.arr (cNd n.kids[1])]) 5 t (I.map cNd):=Qz go zOm fun i q1 q2=>g _ _ q2
       have a9:But xb mu (U.mu++[Cell.arr (cNd n.kids[1])]):=a8.trans (But.app xb U.mu _);have a2:StOk (ql ts es) s2:=⟨aq,bg,bh,zW1 (ZG (ql ts es) (binB n.op) 1)⟩;have b5:dueN (ql ts es) (binB n.op) (1+1)<=pot (ql ts es) s2:=by rw[<-Ul hb];exact bj
       have an:=ai;have cb:=bn;have J:=be;have bi:=e1;generalize U.mu++[Cell.arr (cNd n.kids[1])]=M2 at *
       have aa:n.kids[1]∈n.kids:=qy a4;have P:=ih j n.kids[1] body s2 M2 xb zOm a2 J (hw.kid aa) (bm.kid aa) b1 b2;have b6:∀{n' z s'},expI ts es f j n.kids[1] body s2 = .ok ((n',z),s')->Gos (ql ts es) s2 s' z:=fun e=>yZ ts aw f a2 J e
       generalize hE:expI ts es f j n.kids[1] body s2=E at *
       cases E with
       |error d =>
        have hI:R = .error d:=hI.symm;subst hI;refine qc.eff0 P (by rintro r m ⟨e,_⟩;cases e) ?_;rintro r m ⟨e,o⟩;cases e;simp[go_sem];exact⟨rfl,a9.trans o⟩
       |ok q =>
        obtain⟨⟨n',k'⟩,s'⟩:=q;have hg:=b6 rfl;simp only at hI;refine qc.eff0 P ?_ (by rintro r m ⟨e,_⟩;cases e);rintro r m ⟨e,b7,o⟩;cases e;have bq:=o.len;have ab:∀ l,(m++l)[mu.length]?=some (.arr [aI n.op,aS C,aI n.n,t,aI n.pos]):=fun l=>by rw[qo zOm,o.same _ zOm zOm];exact b3
        have a6:=a3.cells;have cc:=a3.one;have b8:qj.wrap (z+k')=z+k':=qi (zW1 hg.z0) (zW2 hg.cz hg.c1);have b9:OwnF (mu.length+2) (m++[Cell.arr (cNd n')]) 5 t (I.map cNd):=Qz a3 zSo fun i h1 h2=>by rw[qo zOm,o.same i zOm zOm]
        simp[go_sem,e6,ab];refine Un b9 zOm fun bb m' a0 a1=>?_
        have cd:=a0.2.2;have ad:m'[mu.length]?=some (.arr [aI n.op,aS C,aI n.n,t,aI n.pos]):=by rw[a1 _ zOm];exact ab _
        have ae:=a0.cells;have af:=a0.one;simp[go_sem,e6,bc,ah,ad,ae,af,b8,w2];refine⟨a4,Keep.mk' ?_⟩;refine⟨I++[n'],j,C,s',bb,z+k',zS1 e0,zS1 bi,zS1 e3,zS1 e6,zS1 e8,zSi,zS1 ao,zS1 ag,zSi,?_,?_,?_,?_,?_,J,zSo,hg.l0,zW2 hg.cz hg.z0,hg.c1,Int.le_trans b5 hg.p,zW2 hg.cz hg.z0,zW1 hg.z0,zW1 hg.cz,?_⟩
        all_goals try simp only[qP]
        .refine ⟨zSo,fun i h1 h2=>?_⟩
         rw[qv zOm,a1 i zOm,qo zOm,o.same i zOm h2];exact a9.same i h1 h2
        .rw [qv zOm,a1 _ zOm,qo zOm];exact b7
        .rw [qv zOm,a1 _ zOm,qo zOm,o.same _ zOm zOm];exact b4
        .exact qJ zOm
        .exact a0.set zOm
        .rw [<-hI]
         generalize ya (fun env k s=>expI ts es f env k body s) (fun env nm s=>renI ts es env nm body s) (binB n.op) (1+1) j C (n.kids.drop (1+1)) s'=W;cases W with
         |error e=>rfl
         |ok q=>simp[vq,Int.add_assoc]
      .have cf:¬(k:Int)=1:=by omega
       simp[go_sem,e0,e1,e3,ao,ag,ah,a4,cf];have bl:U.mu.length+1<=(U.mu++[Cell.arr (cNd n.kids[k])]).length:=zSp;have b1:(U.mu++[Cell.arr (cNd n.kids[k])])[xb]?=some (.arr (cIn ts tb s2)):=by rw[g _ _ zOm];exact gx
       have b2:(U.mu++[Cell.arr (cNd n.kids[k])])[tb]?=some (.mp (eSet es)):=by rw[g _ _ zOm];exact gt
       have b3:=ar [Cell.arr (cNd n.kids[k])];have b4:(U.mu++[Cell.arr (cNd n.kids[k])])[mu.length+1]?=some (.arr [aI 0,aS ⟨#[]⟩,aI 0,.lst true [],aI 0]):=by rw[g _ _ zOm];exact gr
       have a3:OwnF (mu.length+2) (U.mu++[Cell.arr (cNd n.kids[k])]) 5 t (I.map cNd):=Qz go zOm fun i q1 q2=>g _ _ q2
       have a9:But xb mu (U.mu++[Cell.arr (cNd n.kids[k])]):=a8.trans (But.app xb U.mu _);have a2:StOk (ql ts es) s2:=⟨aq,bg,bh,zW1 (ZG (ql ts es) (binB n.op) k)⟩;have b5:dueN (ql ts es) (binB n.op) (k+1)<=pot (ql ts es) s2:=by rw[<-Ul hb];exact bj
       have an:=ai;have cb:=bn;have J:=be;have bi:=e1;generalize U.mu++[Cell.arr (cNd n.kids[k])]=M2 at *
       have aa:n.kids[k]∈n.kids:=qy a4;have P:=ih j n.kids[k] body s2 M2 xb zOm a2 J (hw.kid aa) (bm.kid aa) b1 b2;have b6:∀{n' z s'},expI ts es f j n.kids[k] body s2 = .ok ((n',z),s')->Gos (ql ts es) s2 s' z:=fun e=>yZ ts aw f a2 J e
       generalize hE:expI ts es f j n.kids[k] body s2=E at *
       cases E with
       |error d =>
        have hI:R = .error d:=hI.symm;subst hI;refine qc.eff0 P (by rintro r m ⟨e,_⟩;cases e) ?_;rintro r m ⟨e,o⟩;cases e;simp[go_sem];exact⟨rfl,a9.trans o⟩
       |ok q =>
        obtain⟨⟨n',k'⟩,s'⟩:=q;have hg:=b6 rfl;simp only at hI;refine qc.eff0 P ?_ (by rintro r m ⟨e,_⟩;cases e);rintro r m ⟨e,b7,o⟩;cases e;have bq:=o.len;have ab:∀ l,(m++l)[mu.length]?=some (.arr [aI n.op,aS C,aI n.n,t,aI n.pos]):=fun l=>by rw[qo zOm,o.same _ zOm zOm];exact b3
        have a6:=a3.cells;have cc:=a3.one;have b8:qj.wrap (z+k')=z+k':=qi (zW1 hg.z0) (zW2 hg.cz hg.c1);have b9:OwnF (mu.length+2) (m++[Cell.arr (cNd n')]) 5 t (I.map cNd):=Qz a3 zSo fun i h1 h2=>by rw[qo zOm,o.same i zOm zOm]
        simp[go_sem,e6,ab];refine Un b9 zOm fun bb m' a0 a1=>?_
        have cd:=a0.2.2;have ad:m'[mu.length]?=some (.arr [aI n.op,aS C,aI n.n,t,aI n.pos]):=by rw[a1 _ zOm];exact ab _
        have ae:=a0.cells;have af:=a0.one;simp[go_sem,e6,bc,ah,ad,ae,af,b8,w1];refine⟨a4,Keep.mk' ?_⟩;refine⟨I++[n'],j,C,s',bb,z+k',zS1 e0,zS1 bi,zS1 e3,zS1 e6,zS1 e8,zSi,zS1 ao,zS1 ag,zSi,?_,?_,?_,?_,?_,J,zSo,hg.l0,zW2 hg.cz hg.z0,hg.c1,Int.le_trans b5 hg.p,zW2 hg.cz hg.z0,zW1 hg.z0,zW1 hg.cz,?_⟩
        all_goals try simp only[qP]
        .refine ⟨zSo,fun i h1 h2=>?_⟩
         rw[qv zOm,a1 i zOm,qo zOm,o.same i zOm h2];exact a9.same i h1 h2
        .rw [qv zOm,a1 _ zOm,qo zOm];exact b7
        .rw [qv zOm,a1 _ zOm,qo zOm,o.same _ zOm zOm];exact b4
        .exact qJ zOm
        .exact a0.set zOm
        .rw [<-hI]
         generalize ya (fun env k s=>expI ts es f env k body s) (fun env nm s=>renI ts es env nm body s) (binB n.op) (k+1) j C (n.kids.drop (k+1)) s'=W;cases W with
         |error e=>rfl
         |ok q=>simp[vq,Int.add_assoc]
  .rw [if_neg a6]at e;cases e
 .rintro r m ⟨rfl,e⟩
  by_cases a6:s.cost+1<=4000
  .rw [if_pos a6]at e;cases e
  .rw [if_neg a6]at e hR
   cases e;subst hR;simp[go_sem];exact⟨rfl,(But.app xb mu _).trans (But.setX xb _ _)⟩
theorem X4(ts:TS)(h:okTS ts)(t:∀ p,p∈ts.preds->WfN p.body/\yG ts p.body)(es:List (ByteArray×Bool))(l:ql ts es<=200000)(g:Free ts es)(tb:Nat):∀ f:Nat,IHE ts es tb f
 | 0=>fun env n body s mu xb C j o I i hx r=>zW1 j.c1
 |f+1=>fun env n body s mu xb C j o I i hx r=>by
  by_cases J:n.op=1
  .have:=qkD ts es tb env n body s mu xb j o hx r J
   have e:expI ts es (f+1) env n body s=if s.cost+1<=4000 then j0 env n (payS 1 s) else .error (2,0):=by simp only[expI,J,if_true]
   rw[e];exact this
  .by_cases h47:n.op=47
   .exact qkF ts h t es l g tb f (X4 ts h t es l g tb f) env n body s mu xb C j o I i hx r h47
   .exact qkG ts h es l g tb f (X4 ts h t es l g tb f) env n body s mu xb C j o I i hx r J h47
end
end YD
namespace YE
open P1 P2 Y1 Y9 YX YZ YB YC YD
mutual
def cntT:Nd->Int
 | .mk _ _ _ ks _=>1+yU ks
def yU:List Nd->Int
 | []=>0
 |k :: ks=>cntT k+yU ks
end
theorem X5(n:Nd):cntT n=1+yU n.kids:=by
 obtain⟨op,nm,i,ks,p⟩:=n;simp[cntT,Nd.kids]
mutual
theorem X6:∀ n:Nd,1<=cntT n
 | .mk _ _ _ ks _=>by simp only[cntT];have:=Uo ks;omega
theorem Uo:∀ ks:List Nd,0<=yU ks
 | []=>by simp[yU]
 |k :: ks=>by simp only[yU];have:=X6 k;have:=Uo ks;omega
end
mutual
theorem X7:∀ n:Nd,depN n<=cntT n
 | .mk _ _ _ ks _=>by simp only[cntT,depN];have:=mC ks;omega
theorem mC:∀ ks:List Nd,zZ ks<=yU ks
 | []=>by simp[zZ,yU]
 |k :: ks=>by
  simp only[yU,zZ];have:=X7 k;have:=mC ks;have:=X6 k;have:=Uo ks;omega
end
section
variable {J:Type}{R:IEnv->ByteArray->ISt->(IEnv×ByteArray)×ISt}{es:List (ByteArray×Bool)}{E:Nd->ISt->XR (Nd×Int)}
def uD(env:IEnv):Prop:=∀ e,e∈env->∀ a,e.2.arg=some a->e.2.size=cntT a/\Small a
theorem X8{g:Type} [DecidableEq g] {k:g} {v:J}:∀{es:List (g×J)},getK k es=some v->(k,v)∈es
 | [],h=>by simp[getK]at h
 |e :: es,h=>by
  unfold getK at h;split at h
  .rename_i i;cases h;subst i;exact q8 ..
  .exact qY _ (X8 h)
theorem Up{g:Type} [DecidableEq g] {k:g} {v:J}:∀{es:List (g×J)} {x:g×J},x∈setK k v es->x=(k,v)\/x∈es
 | [],x,h=>by simp[setK]at h;exact .inl h
 |e :: es,x,h=>by
  unfold setK at h;split at h
  .rcases qt.1 h with h|h
   .exact .inl h
   .exact .inr (qY _ h)
  .rcases qt.1 h with h|h
   .exact .inr (by rw[h];exact q8 ..)
   .exact (Up h).imp id (qY _)
theorem qkH{ts:TS}{env:IEnv}{nm:ByteArray}{body:Bool}{s:ISt}(h:uD env):uD (renI ts es env nm body s).1.1:=by
 have i:uD (delK nm env):=fun e g=>h e (WQ.subset g)
 unfold renI;split
 .intro e g a j
  rcases Up g with rfl|g
  .cases j
  .exact i e g a j
 .exact i
theorem mD:∀{ks:List Nd} {ps:List (ByteArray×Int)} {own g:IEnv} {s s':ISt},(∀ k n' z s s',k∈ks->E k s = .ok ((n',z),s')->z=cntT n'/\Small n')->uD own->yF E ps ks own s = .ok (g,s')->uD g
 | [],ps,own,g,s,s',_,i,e=>by
  have e:Except.ok (own,s)=(Except.ok (g,s'):XR IEnv):=by cases ps<;>exact e
  cases e;exact i
 |k :: ks,[],own,g,s,s',_,i,e=>by cases e;exact i
 |k :: ks,p :: ps,own,g,s,s',l,i,e=>by
  simp only[yF]at e;split at e
  .cases e
  .rename_i C m s1 r
   refine mD (fun k n' z s s' t=>l k n' z s s' (qY _ t)) (fun e j a o=>?_) e;rcases Up j with rfl|j
   .cases o
    exact l k _ m s s1 (q8 ..) r
   .exact i e j a o
theorem mE{E:IEnv->Nd->ISt->XR (Nd×Int)}{bin:Bool}(p:∀ env nm s,uD env->uD (R env nm s).1.1) :
  ∀{ks:List Nd} {i:Nat} {env:IEnv} {nm nm':ByteArray} {s s':ISt} {j:List Nd} {m:Int},(∀ env k n' z s s',k∈ks->uD env->E env k s = .ok ((n',z),s')->z=cntT n'/\Small n')->uD env ->
  ya E R bin i env nm ks s = .ok ((nm',j,m),s')->m=yU j/\j.length=ks.length/\∀ k,k∈j->Small k
 | [],i,env,nm,nm',s,s',j,m,_,_,e=>by
  cases e;exact⟨rfl,rfl,fun k o=>absurd o qE⟩
 |k :: ks,i,env,nm,nm',s,s',j,m,t,C,e=>by
  simp only[ya]at e;obtain⟨r,I⟩:∃ r,r=if bin=true/\i=1 then R env nm s else ((env,nm),s):=⟨_,rfl⟩
  rw[<-I]at e;have l:uD r.1.1:=by
   rw[I];split
   .exact p _ _ _ C
   .exact C
  split at e
  .cases e
  .rename_i J P s1 T
   have g:=t r.1.1 k J P r.2 s1 (q8 ..) l T;split at e
   .cases e
   .rename_i U a0 m2 s2 h2
    obtain⟨q1,q2,q3⟩:=mE p (fun env k n' z s s' o=>t env k n' z s s' (qY _ o)) l h2;cases e;refine⟨by simp only[yU];rw[g.1,q1],zP1 q2,fun x hx=>?_⟩;rcases qt.1 hx with rfl|hx
    .exact g.2
    .exact q3 x hx
theorem Yk(ts:TS)(o:∀ p,p∈ts.preds->WfN p.body)(es:List (ByteArray×Bool)):∀(f:Nat) {env:IEnv} {n n':Nd} {body:Bool} {s s':ISt} {z:Int},uD env->WfN n->expI ts es f env n body s = .ok ((n',z),s')->z=cntT n'/\Small n'
 | 0,_,_,_,_,_,_,_,_,_,e=>by cases e
 |f+1,env,n,n',body,s,s',z,j,l,e=>by
  simp only[expI]at e;split at e
  .split at e
   .rename_i t
    have g:n.kids=[]:=by
     have r:=l.shape;unfold shp at r;rw[if_pos (.inl t)]at r;simp only[qp]at r;exact List.map_eq_nil_iff.1 r.symm
    unfold j0 at e;split at e
    .cases e
     exact⟨by rw[X5,g];rfl,l.small⟩
    .rename_i v C
     split at e
     .cases e
      refine⟨by rw[X5];show 1=1+yU n.kids;rw[g];rfl,.mk _ (by show n.kids.length<=1000;rw[g];simp) fun k i=>?_⟩;have i:k∈n.kids:=i;rw[g]at i;exact absurd i qE
     .rename_i a R
      split at e
      .cases e
       exact j _ (X8 C) _ R
      .cases e
   .split at e
    .split at e
     .cases e
     .rename_i p hp
      obtain⟨own,s1,I,e⟩:=Qx e;have T:=mD (fun k n' z s s' i J=>Yk ts o es f j (l.kid i) J) (fun e j=>absurd j qE) I;exact Yk ts o es f T (o p (List.mem_of_find?_eq_some hp)) e
    .obtain ⟨⟨U,P,m⟩,s1,I,e⟩:=Qx e
     cases e;obtain⟨q1,q2,q3⟩:=mE (fun env nm s h=>qkH h) (fun env k n' z s s' i C J=>Yk ts o es f C (l.kid i) J) j I;refine⟨by rw[X5];show 1+m=_;rw[q1];rfl,.mk _ ?_ q3⟩;show P.length<=1000;have:=l.len;omega
  .cases e
theorem mF:∀{ks:List Nd} {ps:List (ByteArray×Int)} {own:IEnv} {s:ISt} {d:Dg},(∀ k s d,E k s = .error d->d=(2,0))->yF E ps ks own s = .error d->d=(2,0)
 | [],ps,own,s,d,_,e=>by
  have e:Except.ok (own,s)=(Except.error d:XR IEnv):=by cases ps<;>exact e
  cases e
 |k :: ks,[],own,s,d,_,e=>by cases e
 |k :: ks,p :: ps,own,s,d,g,e=>by
  simp only[yF]at e;split at e
  .rename_i j i
   cases e;exact g _ _ _ i
  .exact mF g e
theorem mG{E:IEnv->Nd->ISt->XR (Nd×Int)}{bin:Bool}:∀{ks:List Nd} {i:Nat} {env:IEnv} {nm:ByteArray} {s:ISt} {d:Dg},(∀ env k s d,E env k s = .error d->d=(2,0))->ya E R bin i env nm ks s = .error d->d=(2,0)
 | [],i,env,nm,s,d,_,e=>by cases e
 |k :: ks,i,env,nm,s,d,g,e=>by
  simp only[ya]at e;split at e
  .rename_i j l
   cases e;exact g _ _ _ _ l
  .split at e
   .rename_i j o
    cases e;exact mG g o
   .cases e
theorem mH{i:Type}{q:XR J}{g:J->ISt->XR i}{d:Dg}(h:vq q g = .error d):q = .error d\/∃ a s,q = .ok (a,s)/\g a s = .error d:=by
 unfold vq at h;split at h
 .cases h;exact .inl rfl
 .exact .inr ⟨_,_,rfl,h⟩
theorem Jz(ts:TS)(es:List (ByteArray×Bool)):∀(f:Nat) {env:IEnv} {n:Nd} {body:Bool} {s:ISt} {d:Dg},expI ts es f env n body s = .error d->d=(2,0)
 | 0,_,_,_,_,_,e=>by cases e;rfl
 |f+1,env,n,body,s,d,e=>by
  simp only[expI]at e;split at e
  .split at e
   .unfold j0 at e
    split at e
    .cases e
    .split at e
     .cases e
     .split at e
      .cases e
      .cases e;rfl
   .split at e
    .split at e
     .cases e;rfl
     .rcases mH e with e|⟨own,g,i,e⟩
      .exact mF (fun k s d h=>Jz ts es f h) e
      .exact Jz ts es f e
    .rcases mH e with e|⟨own,g,i,e⟩
     .exact mG (fun env k s d h=>Jz ts es f h) e
     .cases e
  .cases e;rfl
def outI(ts:TS)(es:List (ByteArray×Bool))(n:Nd):Except Dg Nd:=
 match expI ts es 4001 [] n false ⟨0,0⟩ with
 | .error d => .error d
 | .ok ((g,z),_)=>if z<=400/\depN g<=24 then .ok g else .error (2,n.pos)
theorem X9{ts:TS}{n:Nd}{d:Dg}(h:outI ts es n = .error d):d.1=2:=by
 unfold outI at h;split at h
 .rename_i i g
  cases h;rw[Jz ts es _ g]
 .split at h
  .cases h
  .cases h;rfl
theorem qkI(ts:TS)(h:okTS ts)(hb:∀ p,p∈ts.preds->WfN p.body/\yG ts p.body)(es:List (ByteArray×Bool))(hF:ql ts es<=200000)(U:Free ts es)(n:Nd)(hw:WfN n)(a4:yG ts n){mu:Mu}{xp ob xb tb:Nat}
  (h1:mu[xp]?=some (.arr [.ptr xb 0])) (hx:mu[xb]?=some (.arr (cIn ts tb ⟨0,0⟩))) (ht:mu[tb]?=some (.mp (eSet es))) (J:mu[ob]?=some (.arr [aI 0,aS ⟨#[]⟩,aI 0,.lst true [],aI 0])) :
  qe qb 143 [.ptr xp 0,.ip (cNd n),.ptr ob 0] mu fun e m=>match outI ts es n with
   | .error d=>e = .pan (jz d.1 d.2)/\mu.length<=m.length/\∀ i,i<mu.length->i≠xb->i≠ob->m[i]?=mu[i]?
   | .ok n'=>e = .ret (.tup [])/\m[ob]?=some (.arr (cNd n'))/\mu.length<=m.length/\∀ i,i<mu.length->i≠xb->i≠ob->m[i]?=mu[i]?:=by
 refine qe.of_awp call143 func143 rfl (qh zKr) zKr (pl:={}) ?_;have ae:xp<mu.length:=(qk.1 h1).1;have a5:xb<mu.length:=(qk.1 hx).1;have a6:tb<mu.length:=(qk.1 ht).1;have a7:ob<mu.length:=(qk.1 J).1;have a0:ob≠xb:=fun e=>by rw[e,hx]at J;cases J
 simp[go_sem,h1];have g:∀ i,i<mu.length->(cutM (fun i=>!decide (mu.length<=i)) (mu++[Cell.mp []]) 0)[i]?=mu[i]?:=fun i hi=>by rw[vK zSo,qo hi]
 have a1:StOk (ql ts es) ⟨0,0⟩:=⟨zSp,zSp,zSp,by simp[pot]⟩;have j:=X4 ts h hb es hF U tb 4001 [] n false ⟨0,0⟩ (cutM (fun i=>!decide (mu.length<=i)) (mu++[Cell.mp []]) 0) xb zSp a1 .nil hw a4 (by rw[g _ a5];exact hx) (by rw[g _ a6];exact ht);have j:=qe.freeze (mu:=mu++[Cell.mp []]) (args:=[.ptr xb 0,.mp mu.length,eNd n,aB false]) (args1:=[.ptr xb 0,eEnv [],eNd n,aB false]) (fun i=>decide (mu.length<=i)) ⟨.inl rfl,.inr (mA (acc:=[]) (by rw[vK zSp];simp) zSp (fun e he=>absurd he qE)),.inl rfl,.inl rfl,trivial⟩ j;have a9:=fun {n' z R}=>Yk ts (fun p hp=>(hb p hp).1) es 4001 (env:=[]) (n:=n) (n':=n') (body:=false) (s:=⟨0,0⟩) (s':=R) (z:=z) (fun e he=>absurd he qE) hw
 have aa:=fun {n' z R}=>yZ ts U 4001 (env:=[]) (n:=n) (n':=n') (body:=false) (s':=R) (z:=z) a1 .nil
 unfold outI;generalize expI ts es 4001 [] n false ⟨0,0⟩=E at *
 cases E with
 |error d =>
  refine qc.eff0 j (by rintro r m ⟨e,_⟩;cases e) ?_;rintro r m ⟨e,o⟩;cases e;have t:=o.len;rw[jr]at t;simp only[zc,zG,List.length_nil]at t;simp[go_sem];exact⟨zOm,fun i hi hx J=>by rw[o.same i (by rw[jr];simp;omega) hx,g i hi]⟩
 |ok q =>
  obtain⟨⟨n',z⟩,R⟩:=q;obtain⟨hz,ab⟩:=a9 rfl;have hg:=aa rfl;have ag:z<=4000:=by have:=hg.cz;have:=hg.c1;simp only at *;omega
  have ah:=X7 n';refine qc.eff0 j ?_ (by rintro r m ⟨e,_⟩;cases e);rintro r m ⟨e,ai,o⟩;cases e;have t:=o.len;rw[jr]at t;simp only[zc,zG,List.length_nil]at t;have ad:m[ob]?=some (.arr [aI 0,aS ⟨#[]⟩,aI 0,.lst true [],aI 0]):=by rw[o.same _ (by rw[jr];simp;omega) a0,g _ a7];exact J
  have C:∀ c,(m.set ob c)[ob]?=some c:=fun c=>qJ zOm
  simp[go_sem,ad];have l:∀ c,mu.length<=(m.set ob c).length/\∀ i,i<mu.length->i≠xb->i≠ob->(m.set ob c)[i]?=mu[i]?:=fun c=>⟨zSo,fun i hi hx J=>by
   rw[qv (fun e=>J e.symm),o.same i (by rw[jr];simp;omega) hx,g i hi]⟩
  have wz:∀ b c,WKs [aB b,aI c,eNd n] [aB b,aI c,eNd n]:=fun b c => .zs (.zs (.zk (qz n) .nil))
  by_cases P:z<=400
  .have I:=mn (szN n') n' (qm _) ab zOm
   by_cases a3:depN n'<=24
   .refine qg.intro zKr ?_
    simp[go_sem,P,C];refine qc.pure I (.zk (qz n') .nil) ?_;simp[go_sem,a3];refine qc.pure (zH true 2 n).toP (wz true 2) ?_;simp[go_sem,C];simpa using l _
   .refine qg.tail 8 zKr ?_
    simp[go_sem,P,C];refine qc.pure I (.zk (qz n') .nil) ?_;simp[go_sem,a3];refine qc.pans (zH false 2 n) (wz false 2) ?_;simp[go_sem];simpa using l _
  .refine qg.tail 8 zKr ?_
   simp[go_sem,P];refine qc.pans (zH false 2 n) (wz false 2) ?_;simp[go_sem];simpa using l _
end
end YE
namespace YG
open YS P1 Y1 Y9 YX YZ YA YB YC YE Q6
def valD(l:List UInt8):Nat:=l.foldl (fun a b=>10*a+(b.toNat-48)) 0
theorem mI(u:Nat):valD (Lib.decDigits u)=u:=by
 induction u using Nat.strongRecOn with
 |_ u g =>
  rw[Lib.decDigits];split
  .rename_i h
   simp only[valD,List.foldl_cons,List.foldl_nil];rw[UInt8.toNat_ofNat_of_lt' (by simp[UInt8.size];omega)];omega
  .rename_i h
   have:=g (u / 10) zOm;unfold valD at this⊢;rw[ue,this];simp only[List.foldl_cons,List.foldl_nil];rw[UInt8.toNat_ofNat_of_lt' (by simp[UInt8.size];omega)];omega
theorem qkJ{a b:Nat}(h:jh (a:Int)=jh (b:Int)):a=b:=by
 have g:Lib.decDigits a=Lib.decDigits b:=by
  unfold jh Lib.itoa at h;rw[if_neg zOm,if_neg zOm]at h;simp only[Int.toNat_natCast]at h;have h:=congrArg (fun x:ByteArray=>x.data.toList) h;simpa using h
 rw[<-mI a,g,mI]
theorem qkK{p a b:ByteArray}(h:p++a=p++b):a=b:=by
 have h:=congrArg (fun x:ByteArray=>x.data.toList) h;simp only[ByteArray.data_append,Array.toList_append]at h;have:=List.append_cancel_left h;cases a;cases b;simp at this;rw[this]
theorem Ka{a b:Nat}(h:vN (a:Int)=vN (b:Int)):a=b:=qkJ (qkK h)
def badL(ts:TS)(es:List (ByteArray×Bool)):List ByteArray:=es.map Prod.fst++(ts.fields.map (fun f=>f.name)++ts.sorts.flatMap fun s=>[s.1,s.1++yV,s.1++jM])
theorem qkL(ts:TS)(es:List (ByteArray×Bool)):(badL ts es).length+1=ql ts es:=by
 have:∀ l:List (ByteArray×Bool),(l.flatMap fun s=>[s.1,s.1++yV,s.1++jM]).length=3*l.length:=by
  intro l;induction l with
  |nil=>rfl
  |cons a l g=>rw[uG,zc,g];simp;omega
 unfold badL ql;rw[zc,zc,this,yI,yI];omega
theorem qkM{ts:TS}{es:List (ByteArray×Bool)}{nm:ByteArray}(h:yr ts es nm=false):nm∈badL ts es:=by
 unfold yr at h;unfold badL;rw[Bool.and_eq_false_iff]at h;rcases h with h|h
 .have h:getK nm es=some true:=by simpa using h
  exact jc _ (qr.2 ⟨_,X8 h,rfl⟩)
 .refine List.mem_append_right _ ?_
  have h:means ts nm≠[]:=zUs h;unfold means at h;by_cases hf:yB ts.fields nm=[]
  .rw [hf,jq]at h
   refine List.mem_append_right _ ?_;have:∀(g:List (ByteArray×Bool)) (i:Nat),yC i g nm≠[]->nm∈g.flatMap fun s=>[s.1,s.1++yV,s.1++jM]:=by
    intro g;induction g with
    |nil=>intro i h;exact absurd rfl h
    |cons s g t =>
     intro i h;rw[uG,qM];by_cases j:vS i s nm=[]
     .refine .inr (t (i+1) ?_)
      simpa[yC,j] using h
     .left
      unfold vS at j;by_cases l:s.1=nm
      .simp [l]
      by_cases o:s.2=true/\s.1++yV=nm
      .simp [o.2]
      by_cases p:s.2=true/\s.1++jM=nm
      .simp [p.2]
      exact absurd (by simp[l,o,p]) j
   exact this ts.sorts 0 h
  .refine jc _ ?_
   obtain⟨k,r⟩:=List.exists_mem_of_ne_nil _ hf;unfold yB at r;obtain⟨f,hf,e⟩:=List.mem_filterMap.1 r;split at e
   .rename_i C
    exact qr.2 ⟨f,hf,C⟩
   .cases e
theorem Uq(ts:TS)(es:List (ByteArray×Bool)):Free ts es:=by
 intro l I;by_cases g:∃ j:Nat,1<=j/\j<=ql ts es/\yr ts es (vN (l+j))=true
 .exact g
 exfalso;obtain⟨L,rfl⟩:∃ L:Nat,l=L:=⟨l.toNat,zOm⟩;have o:∀ x,x∈(qu (ql ts es)).map (fun i=>vN ((L+(i+1):Nat):Int))->x∈badL ts es:=fun x hx=>by
  obtain⟨i,t,rfl⟩:=qr.1 hx;rw[yx]at t;refine qkM ?_;cases C:yr ts es (vN ((L+(i+1):Nat):Int)) with
  |false=>rfl
  |true=>exact absurd ⟨i+1,zOm,zOm,by rw[show (L:Int)+((i+1:Nat):Int)=((L+(i+1):Nat):Int) by omega];exact C⟩ g
 have p:((qu (ql ts es)).map (fun i=>vN ((L+(i+1):Nat):Int))).Nodup:=by
  refine List.pairwise_map.2 (List.nodup_range.imp fun r e=>r ?_);have:=Ka e;omega
 have:=jT p o;rw[yI,List.length_range]at this;have:=qkL ts es;omega
def putN(es:List (ByteArray×Bool))(l:List Nd):List (ByteArray×Bool):=l.foldl (fun es n=>setK n.name true es) es
def yH(ts:TS)(n:Nd):List (ByteArray×Bool):=ts.preds.foldl (fun I p=>putN I (preN p.body)) (putN [] (preN n))
def qK(ts:TS)(n:Nd):Nd×Int:=
 if (yi ts [] n).1≠0 then (nd0,(yi ts [] n).1)
 else if anyN (fun n=>decide (n.op=47)) n=false then (n,0)
 else match outI ts (yH ts n) n with
  | .error d=>(nd0,d.1)
  | .ok g=>(g,0)
theorem Yl(p:Nd->Bool):∀(m:Nat) (n:Nd),szN n<=m->anyN p n=(preN n).any p
 | 0,n,g=>by obtain⟨op,nm,i,ks,q⟩:=n;simp[szN]at g
 |m+1,n,g=>by
  rw[Uf,ub,List.any_cons];congr 1;have:∀ l:List Nd,(∀ k,k∈l->k∈n.kids)->vZ p l=(zo l).any p:=by
   intro l;induction l with
   |nil=>intro _;rfl
   |cons k l o =>
    intro j;simp only[vZ,zo,List.any_append];rw[o fun x hx=>j x (qY _ hx),Yl p m k (zW1 (zS (j k (q8 ..))))]
  exact this n.kids fun k r=>r
end YG
namespace YH
open YF P1 P2 Y1 Y6 Y9 Y14 YX YZ YB YC YE YG Q6
section
variable {b:Bool}{es:List (ByteArray×Bool)}{mu:Mu}{ts:TS}
structure InM (ts:TS) (es:List (ByteArray×Bool)) (b:Bool) (mu:Mu):Prop where
 r:mu[0]?=some (.arr [aI 0,aS ⟨#[]⟩,aI 0,.lst true [],aI 0])
 t:mu[2]?=some (.mp (eSet es))
 x:mu[3]?=some (.arr (cIn ts 2 ⟨0,0⟩))
 p:mu[4]?=some (.arr [.ptr 3 0])
 c:mu[5]?=some (.arr [aB b])
theorem InM.len(h:InM ts es b mu):5<mu.length:=(qk.1 h.c).1
theorem InM.push(h:InM ts es b mu)(l:Mu):InM ts es b (mu++l):=by
 have g:=h.len;exact⟨by rw[qo zOm];exact h.r,by rw[qo zOm];exact h.t,by rw[qo zOm];exact h.x,by rw[qo zOm];exact h.p,by rw[qo zOm];exact h.c⟩
theorem InM.setT{g:List (ByteArray×Bool)}(h:InM ts es b mu):InM ts g b (mu.set 2 (.mp (eSet g))):=by
 have i:=h.len;exact⟨by rw[qv zOm];exact h.r,qJ zOm,by rw[qv zOm];exact h.x,by rw[qv zOm];exact h.p,by rw[qv zOm];exact h.c⟩
theorem InM.setC{b':Bool}(h:InM ts es b mu):InM ts es b' (mu.set 5 (.arr [aB b'])):=by
 have g:=h.len;exact⟨by rw[qv zOm];exact h.r,by rw[qv zOm];exact h.t,by rw[qv zOm];exact h.x,by rw[qv zOm];exact h.p,qJ zOm⟩
theorem qkN(mu:Mu):Rd mu eN0 (eNd nd0) := .agg _ _ rfl fun k x y hx g=>by
 match k with
 | 0=>simp[nd0,cNd]at hx g;subst hx;subst g;exact .zsc _
 | 1=>simp[nd0,cNd]at hx g;subst hx;subst g;exact .zsc _
 | 2=>simp[nd0,cNd]at hx g;subst hx;subst g;exact .zsc _
 | 3=>simp[nd0,cNd,cNds]at hx g;subst hx;subst g;exact .wk _ true [] (.hf _ (HF.lst fun r i=>absurd i qE))
 | 4=>simp[nd0,cNd]at hx g;subst hx;subst g;exact .zsc _
 |k+5=>simp at hx
theorem ZH(mu:Mu)(d:Int):Rd mu (.tup [eN0,aI d]) (.tup [eNd nd0,aI d]) := .tup _ _ rfl fun k x y hx g=>by
 match k with
 | 0=>simp at hx g;subst hx;subst g;exact qkN _
 | 1=>simp at hx g;subst hx;subst g;exact .zsc _
 |k+2=>simp at hx
theorem mJ(ts:TS)(h:okTS ts)(hb:∀ p,p∈ts.preds->WfN p.body/\yG ts p.body)(n:Nd)(hw:WfN n)(ak:(yi ts [] n).1=0->yG ts n)(hF:ql ts (yH ts n)<=200000):qd qb 68 [eTS ts,eNd n] (.tup [eNd (qK ts n).1,aI (qK ts n).2]):=by
 generalize g:qK ts n=R;unfold qK at g;refine qd.of_sound (qe.of_awp call68 func68 rfl (qh zKr) zKr (pl:={ mt:=[25] }) ?_);simp[go_sem];have a9:∀ p,p∈ts.preds->WfN p.body:=fun p hp=>(hb p hp).1
 refine qc.pure (nM ts h a9 n hw [] ⟨zSp,zSp⟩) (.zk (zA ts) (.cons (WK.lst fun r hr=>absurd hr qE) (.zk (qz n) .nil))) ?_;simp[go_sem];by_cases J:(yi ts [] n).1=0
 case neg =>
  rw[if_pos J]at g;subst g;simp[go_sem,J];refine qg.seg [0,1,2,4,3] [(0,0,[]),(1,0,[]),(2,0,[]),(4,0,[]),(3,1,[2])] zKr zKr zSi ?_
  all_goals
   simp[go_sem];exact ZH _ _
 case pos =>
  rw[if_neg (zUs J)]at g;simp[go_sem,J];have al:∀(v:List Nd) (k:Nd) (C:Mu),InM ts (putN [] v) (v.any fun n=>decide (n.op=47)) C->qe qb 140 (eNd k :: [.ptr 4 0,.ptr 5 0]) C fun e m=>e = .ret (.tup [])/\InM ts (putN [] (v++[k])) ((v++[k]).any fun n=>decide (n.op=47)) m:=fun v k C j=>by
   refine(mq ts ⟨0,0⟩ 2 _ _ k j.p j.x j.c j.t).monoR ?_;rintro e m ⟨rfl,rfl⟩;refine⟨rfl,?_⟩;rw[List.any_append];simp only[putN,ue,List.foldl_cons,List.foldl_nil,List.any_cons,List.any_nil,Bool.or_false];exact j.setT.setC
  refine qc.eff0 (Uh (caps:=[.ptr 4 0,.ptr 5 0]) (fun v C=>InM ts (putN [] v) (v.any fun n=>decide (n.op=47)) C) (fun v C l h=>h.push l) al (szN n) n (qm _) hw.small [] _ ⟨rfl,rfl,rfl,rfl,rfl⟩) ?_ (by rintro r m ⟨e,_⟩;cases e);rintro r m ⟨e,j⟩;cases e;rw[jq,<-Yl _ (szN n) n (qm _)]at j;have av:=j.len;have ab:∀ c,(m.set 0 c)[0]?=some c:=fun c=>qJ zOm
  cases P:anyN (fun n=>decide (n.op=47)) n with
  |false =>
   rw[P]at j g;rw[if_pos rfl]at g;subst g;simp[go_sem,j.c,j.r,ab];exact .hf _ (HF.tup fun c J=>by simp at J;rcases J with rfl|rfl;exact qz n;exact HF.sc _)
  |true =>
   rw[P]at j g;rw[if_neg zSp]at g;have aw:=h.np;simp[go_sem,j.c];refine qn.upK ts.preds.length (fun k U=>U.tm 3 = .ip (cNd n)/\U.tm 4 = .ptr 0 0/\U.tm 7 = .ptr 4 0/\U.tm 33=lPd ts.preds/\U.tm 34=aI ts.preds.length/\U.tm 35=aI k/\InM ts ((ts.preds.take k).foldl (fun I p=>putN I (preN p.body)) (putN [] (preN n))) true U.mu) ?_ ?_
   .exact ⟨zSi,zSi,zSi,zSi,zSi,zSi,zVs j⟩
   .rintro k U hk ⟨e3,e4,e7,ad,a5,a6,hM⟩
    by_cases an:k=ts.preds.length
    .subst an
     simp[go_sem,e3,e7,a5,a6];rw[zw]at hM;have hM:InM ts (yH ts n) true U.mu:=hM;have ax:=hM.len;have a2:InM ts (yH ts n) true (U.mu++[Cell.arr [aI 0,aS ⟨#[]⟩,aI 0,.lst true [],aI 0]]++[.dead]):=(hM.push _).push _;have ae:=qkI ts h hb (yH ts n) hF (Uq ts _) n hw (ak J) (mu:=U.mu++[Cell.arr [aI 0,aS ⟨#[]⟩,aI 0,.lst true [],aI 0]]++[.dead]) (ob:=U.mu.length) a2.p a2.x a2.t (by rw[qo zSp,zf (qm _)];simp);have af:=g;clear g;generalize hQ:outI ts (yH ts n) n=Q at *
     refine qc.eff0 (pO ae ?_) ?_ ?_
     .rintro v m g
      cases Q with
      |error d=>exact⟨_,_,by have:=g.1;cases this;rfl⟩
      |ok n'=>have:=g.1;cases this
     .rintro r m ⟨o,c,⟨l,rfl⟩,a0⟩
      have ag:U.mu.length+2<=o.length/\∀ i,i<U.mu.length+2->i≠3->i≠U.mu.length->o[i]?=(U.mu++[Cell.arr [aI 0,aS ⟨#[]⟩,aI 0,.lst true [],aI 0]]++[.dead])[i]?:=by
       rcases a0 with ⟨r',g,_⟩|⟨er,p,g,_⟩<;>cases Q with
       |error d=>exact⟨by have:=g.2.1;simpa using this,fun i h1 h2 h3=>g.2.2 i (zUs h1) h2 h3⟩
       |ok n'=>exact⟨by have:=g.2.2.1;simpa using this,fun i h1 h2 h3=>g.2.2.2 i (zUs h1) h2 h3⟩
      have ah:∀(c:Cell) (l:List Cell),(o.set (U.mu.length+1) c++l)[0]?=some (.arr [aI 0,aS ⟨#[]⟩,aI 0,.lst true [],aI 0]):=fun c l=>by
       rw[qo zSo,qv zOm,ag.2 0 zOm zOm zOm];exact a2.r
      have a1:∀(c c2:Cell) (l:List Cell),((o.set (U.mu.length+1) c++l).set 0 c2)[0]?=some c2:=fun c c2 l=>qJ zSo
      have a4:∀(c c':Cell) (l:List Cell),(o.set (U.mu.length+1) c++(l++[c']))[o.length+l.length]?=some c':=fun c c' l=>by
       rw[zf zSp,zf zSp];simp
      have a7:∀(c c' c2:Cell) (l:List Cell),((o.set (U.mu.length+1) c++(l++[c'])).set 0 c2)[o.length+l.length]?=some c':=fun c c' c2 l=>by
       rw[qv zOm];exact a4 c c' l
      rcases a0 with ⟨r',g,e⟩|⟨er,p,g,e⟩
      .cases Q with
       |error d=>have:=g.1;cases this
       |ok n' =>
        cases e;have ao:∀(c:Cell) (l:List Cell),(o.set (U.mu.length+1) c++l)[U.mu.length]?=some (.arr (cNd n')):=fun c l=>by
         rw[qo zSo,qv zOm];exact g.2.1
        simp[go_sem,e4,ao,ah,a1];subst af;exact .hf _ (HF.tup fun c J=>by simp at J;rcases J with rfl|rfl;exact qz _;exact HF.sc _)
      .cases Q with
       |ok n'=>have:=g.1;cases this
       |error d =>
        have a8:=X9 hQ;have e1:er=d.1:=by have:=g.1;cases this;rfl
        subst e1;cases e;simp[go_sem,a8];have n0:=ah c (l++[Cell.arr [aI d.1,aI p]]);have n1:=a4 c (Cell.arr [aI d.1,aI p]) l;have n2:=fun c2=>a7 c (Cell.arr [aI d.1,aI p]) c2 l
        have n3:=fun c2=>a1 c c2 (l++[Cell.arr [aI d.1,aI p]])
        rw[a8]at n0 n1 n2 n3;generalize o.set (U.mu.length+1) c++(l++[Cell.arr [aI 2,aI p]])=N at *
        generalize o.length+l.length=b at *
        refine qg.seg [0,1,2,4,3] [(0,0,[]),(1,0,[]),(2,0,[]),(4,0,[]),(3,1,[2])] zKr zKr zSi ?_
        all_goals
         simp[go_sem,e4,n0,n1,n2,n3];subst af;rw[<-a8];exact ZH _ _
     .rintro r m ⟨o,c,⟨l,rfl⟩,⟨r',g,e⟩|⟨er,p,g,e⟩⟩<;>cases e
    .have a3:k<ts.preds.length:=by omega
     have w1:qj.wrap ((k:Int)+1)=(k:Int)+1:=qi zOm zOm;have ai:=Qo ts.preds[k];simp[go_sem,e7,ad,a5,a6,a3,ai];have aq:ts.preds[k]∈ts.preds:=qy a3;generalize ar:(ts.preds.take k).foldl (fun I p=>putN I (preN p.body)) (putN [] (preN n))=E0 at *
     have aj:∀(v:List Nd) (x:Nd) (C:Mu),InM ts (putN E0 v) true C->qe qb 141 (eNd x :: [.ptr 4 0]) C fun e m=>e = .ret (.tup [])/\InM ts (putN E0 (v++[x])) true m:=fun v x C j=>by
      refine(qj5 ts ⟨0,0⟩ 2 _ x j.p j.x j.t).monoR ?_;rintro e m ⟨rfl,rfl⟩;refine⟨rfl,?_⟩;simp only[putN,ue,List.foldl_cons,List.foldl_nil];exact j.setT
     refine qc.eff0 (Uh (caps:=[.ptr 4 0]) (fun v C=>InM ts (putN E0 v) true C) (fun v C l h=>h.push l) aj (szN ts.preds[k].body) ts.preds[k].body (qm _) (a9 _ aq).small [] _ (hM.push _)) ?_ (by rintro r m ⟨e,_⟩;cases e);rintro r m ⟨e,au⟩;cases e;simp[go_sem,a6,w1];refine⟨a3,Keep.mk' ?_⟩;refine⟨zS1 e3,zS1 e4,zS1 e7,zS1 ad,zS1 a5,zSi,?_⟩;rw[List.take_add_one,qA a3,ue,ar];simpa[go_sem] using au
end
end YH
end Go.Proofs.YtpagnklaanbmbaaGreatDoor
namespace Go.EvW
open Go Go.Ev Go.RowKit Go.ChangeShapes Go.WideShapes
section
variable {H J:Type}{c:J->List AV}{fs:List (j2×Nat)}{cs:List uk}{N:Nat}{P:j1}{t:j2}{w:j3}
def CR(w:j3)(xs:List AV)(cs:List uk):Prop:=
 cs.length=xs.length/\∀(k:Nat) x,xs[k]?=some x->VRel ⟨(·<w.heap.size),[]⟩ w.heap x (cs.getD k xa)
theorem CR.nil(w:j3):CR w [] []:=⟨rfl,zSp⟩
theorem CR.one{x:AV}{v:uk}(h:VRel ⟨(·<w.heap.size),[]⟩ w.heap x v):CR w [x] [v]:=⟨rfl,fun k y g=>by
 cases k with
 |zero=>simp at g;subst g;simpa using h
 |succ k=>simp at g⟩
theorem CR.app{xs ys:List AV}{ds:List uk}(h:CR w xs cs)(k:CR w ys ds):CR w (xs++ys) (cs++ds):=by
 refine⟨by simp[h.1,k.1],fun i x g=>?_⟩;by_cases j:i<xs.length
 .rw [qo j]at g
  have:=h.2 i x g;rw[zT]at this⊢;rw[qo (by rw[h.1];exact j)];exact this
 .rw [zf zOm]at g
  have:=k.2 _ x g;rw[zT]at this⊢;rw[zf (by rw[h.1];omega),h.1];exact this
def jD(P:j1)(t:j2)(d:DataW H):Prop:=(d.weights P t).all (·<=reachBytes)=true
theorem jD.all{e:j2}:∀{ds:List (DataW H)},(DataW.weightsAll P e ds).all (·<=reachBytes)=true->∀(i:Nat) d,ds[i]?=some d->jD P e d
 | [],_,i,d,g=>by simp at g
 |x :: r,h,i,d,g=>by
  simp only[DataW.weightsAll,List.all_append,qB]at h;cases i with
  |zero=>simp at g;subst g;exact h.1
  |succ i=>exact jD.all h.2 i d (zUs g)
theorem jD.each:∀{ts:List j2} {ds:List (DataW H)},(DataW.weightsEach P ts ds).all (·<=reachBytes)=true->∀(i:Nat) t d,ts[i]?=some t->ds[i]?=some d->jD P t d
 | [],ds,_,i,t,d,g,_=>by simp at g
 |t0 :: ts,[],_,i,t,d,_,j=>by simp at j
 |t0 :: ts,x :: r,h,i,t,d,g,j=>by
  simp only[DataW.weightsEach,List.all_append,qB]at h;cases i with
  |zero=>simp at g j;subst g;subst j;exact h.1
  |succ i=>exact jD.each h.2 i t d (zUs g) (zUs j)
def ShT(P:j1)(n:Nat)(t:j2){J:Type}(c:J->List AV)(ok:J->Prop):Prop:=
 ∀(H:Type) (g:j2×uk->H) (w:j3) (i:List uk) (x:DataW H×List MemPlace),
  DataW.trod g P w 0 (fun _=>true) true n t i=some x->jD P t x.1->∃ a,ok a/\CR w (c a) i
def ShU(P:j1)(N:Nat)(t:j2){J:Type}(c:J->List AV)(ok:J->Prop):Prop:=∀ n,n<N->ShT P n t c ok
theorem ShU.le{M:Nat}{ok:J->Prop}(h:ShU P N t c ok)(g:M<=N):ShU P M t c ok:=fun n i=>h n zOm
theorem ShU.map{i:Type}{ok:J->Prop}{c':i->List AV}{g:i->Prop}(h:ShU P N t c ok)(f:J->i)(l:∀ a,c' (f a)=c a)(o:∀ a,ok a->g (f a)):ShU P N t c' g:=by
 intro n p H j w r x hx C;obtain⟨a,I,R⟩:=h n p H j w r x hx C;exact⟨f a,o a I,by rw[l];exact R⟩
theorem ShU.int{k:IntKind}(g:P.underlying t=some (.int k))(N:Nat):ShU P N t (fun n:Int=>[.sc (.int k n)]) (fun n=>(Lit.int k n).wf=true):=by
 intro n o H j w p x h _;obtain⟨i,rfl,_,l⟩:=DataW.trod_int g h;exact⟨i,l,.one (.sc _ rfl)⟩
theorem ShU.bool(g:P.underlying t=some .bool)(N:Nat):ShU P N t (fun b:Bool=>[.sc (.bool b)]) (fun _=>True):=by
 intro n l H j w o x h _;obtain⟨i,rfl,_⟩:=DataW.trod_bool g h;exact⟨i,trivial,.one (.sc _ rfl)⟩
theorem ShU.string(j:P.underlying t=some .string)(N:Nat):ShU P N t (fun s:ByteArray=>[.sc (.string s)]) (fun s=>s.size<=140737488351232):=by
 intro n p H l w r x h g;obtain⟨i,rfl,rfl,C⟩:=DataW.trod_string j h;refine⟨i,?_,.one (.sc _ rfl)⟩;unfold jD at g;simp only[DataW.weights,List.all_cons,List.all_nil,Bool.and_true,decide_eq_true_eq]at g;have e:i.data.toList.length=i.size:=Array.length_toList;have o:i.size<=reachBytes:=by rw[<-e];exact g
 exact zP o (qh rfl)
theorem mK{a:Addr}{n:Nat}(h:w.cells? 0 a n=some cs):cs.length=n/\∀ i,i<n->w.cell? (a.add i)=some (cs.getD i xa):=by
 unfold World.cells? at h;rw[if_pos (Nat.zero_le _)]at h;have j:=mapM_some_length h;refine⟨zUs j,fun i l=>?_⟩;have:=mapM_some_get h i i (zP1 l);have g:i<cs.length:=by simp at j;omega
 rw[this,zT,qA g];rfl
theorem mL{a:Addr}{v:uk}(h:w.cell? a=some v):∃ arr e g,w.heap[a.block]?=some (.cells arr e g)/\a.spot=none/\arr[a.off]?=some v:=by
 unfold World.cell? at h;split at h
 .rename_i c e g i
  split at h
  .cases h
  .rename_i j
   exact⟨c,e,g,i,zUs j,h⟩
 .cases h
theorem qkO [Inhabited J] {p:Nat->J->Prop} (n:Nat) (h:∀ i,i<n->∃ a,p i a):∃ l:List J,l.length=n/\∀(i:Nat) a,l[i]?=some a->p i a:=by
 induction n with
 |zero=>exact⟨[],rfl,zSp⟩
 |succ n o =>
  obtain⟨l,r,t⟩:=o (fun i j=>h i zOm);obtain⟨a,C⟩:=h n zOm;refine⟨l++[a],zP1 r,fun i b g=>?_⟩;by_cases j:i<l.length
  .rw [qo j]at g;exact t i b g
  .rw [zf zOm]at g
   have:i-l.length=0:=by
    cases I:i-l.length with
    |zero=>rfl
    |succ q=>rw[I]at g;simp at g
   rw[this]at g;simp at g;subst g;have:i=n:=zOm;subst this;exact C
theorem ShU.slice{e:j2} [Inhabited J] {c:J->List AV} {ok:J->Prop} (ht:P.underlying t=some (.slice e)) (he:ShU P N e c ok) (a4:∀ a,ok a->(c a).length=P.cellsOf e) (I:0<P.cellsOf e) (af:Nat.blt 0 (P.bytesOf e)=true) :
  ShU P (N+1) t (fun l:List J=>[.lst false (l.map c)]) (fun l=>l.length<=140737488351232/\∀ a,a∈l->ok a):=by
 intro n hn H ag w cs x h hw;rcases DataW.trod_slice ht h with ⟨rfl,_⟩|⟨a,len,cap,g,R,m,rfl,rfl,rfl,_,hl,hc,ax,a5,_,_⟩
 .exact ⟨[],⟨zSp,zSp⟩,.one (.nil _)⟩
 .have ah:(DataW.weightsAll P e (g.map (·.1))).all (·<=reachBytes)=true:=by
   unfold jD at hw;simp only[DataW.weights,ht,List.all_cons,List.all_append,qB]at hw;exact hw.2.1
  have ai:len<=140737488351232:=by
   unfold jD at hw;simp only[DataW.weights,ht,List.all_cons,List.all_append,qB,decide_eq_true_eq]at hw;have C:=hw.1;have aj:1<=P.bytesOf e:=qh af;have h2:((g.map (·.1)).length+(R.map (·.1)).length)*1<=((g.map (·.1)).length+(R.map (·.1)).length)*P.bytesOf e:=Nat.mul_le_mul_left _ aj;simp only[yI]at C h2;have h3:reachBytes<=140737488351232:=qh rfl;have h4:=zP h2 (zP C h3);omega
  have key:∀ i,i<len->∃ b,ok b/\∃ o,w.cells? 0 (a.add (i*P.cellsOf e)) (P.cellsOf e)=some o/\CR w (c b) o:=by
   intro i hi;have C:=a5 i hi;have a6:i<g.length:=zOm;rw[qA a6]at C;obtain⟨o,h2,h3⟩:=Option.bind_eq_some_iff.1 C;obtain⟨b,h4,h5⟩:=he m zOm H ag w o _ h3 (jD.all ah i _ (by rw[zu,qA a6];rfl));exact⟨b,h4,o,h2,h5⟩
  obtain⟨l,a7,p⟩:=qkO len key;refine⟨l,⟨by rw[a7];exact ai,fun b U=>?_⟩,.one ?_⟩
  .obtain ⟨i,hi⟩:=List.mem_iff_getElem?.1 U
   exact(p i b hi).1
  .have ak:(l.map c).length=len:=by simp[a7]
   rw[<-ak];cases Nat.eq_zero_or_pos len with
   |inl h0 =>
    have:l=[]:=ug zOm;subst this;exact .emp _ a cap zSp
   |inr hp =>
    have al:0<l.length:=zOm;obtain⟨_,ay,C,_⟩:=p 0 l[0] (qA al);obtain⟨an,a0⟩:=mK C;have ao:=a0 0 I;obtain⟨arr,el,fr,U,hs,_⟩:=mL ao;have T:∀ k:Nat,a.spot=none->(a.add k).spot=none/\(a.add k).off=a.off+k:=by
     intro k hk;unfold Addr.add;split<;>simp_all
    have a8:∀(b:Addr) (j:Nat),(b.add j).block=b.block:=by
     intro b j;unfold Addr.add;split<;>rfl
    have e0:((a.add (0*P.cellsOf e)).add 0).block=a.block/\((a.add (0*P.cellsOf e)).add 0).spot=a.spot:=by
     unfold Addr.add;split<;>simp_all
    rw[e0.1]at U;rw[e0.2]at hs;have hz:jH (P.cellsOf e) (l.map c):=fun r hr=>by
     obtain⟨b,aq,rfl⟩:=qr.1 hr;obtain⟨i,hi⟩:=List.mem_iff_getElem?.1 aq;exact a4 b (p i b hi).1
    have ar:=jG hz;refine .lst false (l.map c) (P.cellsOf e) a cap arr el fr (fun k=>arr.getD (a.off+k) xa) U hs zOm zSp (Array.getElem?_eq_some_iff.1 U).1 hz ?_ ?_
    all_goals
     intro k x hk;have a9:k<(l.map c).length*P.cellsOf e:=by rw[<-ar];exact(qk.1 hk).1
     have hq:k / P.cellsOf e<l.length:=by
      rw[yI]at a9;exact Nat.div_lt_of_lt_mul (by rw[Nat.mul_comm];exact a9)
     have hr:k % P.cellsOf e<P.cellsOf e:=Nat.mod_lt _ I;have au:k / P.cellsOf e*P.cellsOf e+k % P.cellsOf e=k:=by
      have:=Nat.div_add_mod k (P.cellsOf e);rw[Nat.mul_comm]at this;exact this
     obtain⟨_,o,C,h2⟩:=p (k / P.cellsOf e) _ (qA hq);obtain⟨an,a0⟩:=mK C;have av:=a0 _ hr;have aa:(l.map c)[k / P.cellsOf e]?=some (c l[k / P.cellsOf e]):=by rw[zu,qA hq];rfl
     have hx:(c l[k / P.cellsOf e])[k % P.cellsOf e]?=some x:=by
      have ab:k % P.cellsOf e<(c l[k / P.cellsOf e]).length:=by rw[a4 _ (p _ _ (qA hq)).1];exact hr
      have:=UY hz aa (qA ab);rw[au]at this;rw[this]at hk;rw[qA ab];exact hk
     obtain⟨aw,az,b0,ad,b1,a3⟩:=mL av;have e1:((a.add (k / P.cellsOf e*P.cellsOf e)).add (k % P.cellsOf e)).block=a.block:=by rw[a8,a8]
     have e2:((a.add (k / P.cellsOf e*P.cellsOf e)).add (k % P.cellsOf e)).off=a.off+k:=by
      have a1:=(T (k / P.cellsOf e*P.cellsOf e) hs).2;have a2:=(T (k / P.cellsOf e*P.cellsOf e) hs).1;have:∀(b:Addr) (j:Nat),b.spot=none->(b.add j).off=b.off+j:=by
       intro b j U;unfold Addr.add;split<;>simp_all
      rw[this _ _ a2,a1];omega
     rw[e1,U]at ad;cases ad;rw[e2]at a3;have ae:arr.getD (a.off+k) xa=o.getD (k % P.cellsOf e) xa:=by
      rw[qH,a3];rfl
    .rw [ae];exact a3
    .show VRel _ _ x (arr.getD (a.off+k) xa)
     rw[ae];exact h2.2 _ x hx
def Ur(P:j1)(t:j2):Option (List (j2×Nat)):=match P.underlying t with|some (.struct g)=>some (g.toList.map fun f=>(f.type,f.offset))|_=>none
inductive ShF (P:j1) (N:Nat):Nat->List (j2×Nat)->{α:Type}->(α->List AV)->(α->Prop)->Prop where
 |nil (o:Nat):ShF P N o [] (fun _:Unit=>[]) (fun _=>True)
 |cons {o:Nat} {t:j2} {fs:List (j2×Nat)} {α β:Type} {c:α->List AV} {ok:α->Prop} {c':β->List AV} {ok':β->Prop} (h:ShU P N t c ok) (k:ShF P N (o+P.cellsOf t) fs c' ok') :
   ShF P N o ((t,o) :: fs) (fun x:α×β=>c x.1++c' x.2) (fun x=>ok x.1/\ok' x.2)
def JA(P:j1)(fs:List (j2×Nat)):Nat:=(fs.map fun f=>P.cellsOf f.1).foldr (·+·) 0
theorem ShF.read{n o:Nat}{ok:J->Prop}(h:ShF P N o fs c ok)(r:n<N){H:Type}{enc:j2×uk->H}{w:j3}(cs:List uk)
  (j:cs.length=o+JA P fs) (hx:∀(i:Nat) f,fs[i]?=some f->∃ x,DataW.trod enc P w 0 (fun _=>true) true n f.1 ((cs.drop f.2).take (P.cellsOf f.1))=some x/\jD P f.1 x.1) :
  ∃ a,ok a/\CR w (c a) (cs.drop o):=by
 induction h with
 |nil o =>
  refine⟨(),trivial,?_⟩;rw[List.drop_of_length_le (by simp[JA]at j;omega)];exact .nil w
 | @cons o t fs J β c ok c' C h k I =>
  obtain⟨x,l,p⟩:=hx 0 _ rfl;obtain⟨a,R,T⟩:=h n r H enc w _ x l p;have U:JA P ((t,o) :: fs)=P.cellsOf t+JA P fs:=rfl;obtain⟨b,hb,hs⟩:=I zOm (fun i g hg=>hx (i+1) g hg);refine⟨(a,b),⟨R,hb⟩,?_⟩;have e:cs.drop o=(cs.drop o).take (P.cellsOf t)++cs.drop (o+P.cellsOf t):=by
   rw[<-List.drop_drop,uf]
  rw[e];exact T.app hs
theorem ShU.struct{ok:J->Prop}(l:Ur P t=some fs)(hf:ShF P N 0 fs c ok)(C:P.cellsOf t=JA P fs):ShU P (N+1) t c ok:=by
 intro n hn H o w cs x h I;unfold Ur at l;split at l
 .rename_i gs U
  simp only[qp]at l;subst l;obtain⟨p,m,rfl,rfl,hl,R,hg⟩:=DataW.trod_struct U h;have T:(DataW.weightsEach P (gs.toList.map (·.type)) (p.map (·.1))).all (·<=reachBytes)=true:=by
   unfold jD at I;simp only[DataW.weights,U]at I;exact I
  obtain⟨a,ha,hr⟩:=hf.read (n:=m) zOm (w:=w) (enc:=o) cs (by rw[hl,C];simp) (fun i f hi=>by
   simp only[zu,j8]at hi;obtain⟨g,j,rfl⟩:=hi;have h1:=hg i g (zUs j);have r:i<p.length:=by
    rw[R];have:=(qk.1 j).1;simpa using this
   rw[qA r]at h1;exact⟨_,h1,jD.each T i _ _ (by rw[zu,j];rfl) (by rw[zu,qA r];rfl)⟩)
  exact⟨a,ha,zUs hr⟩
 .cases l
theorem ShU.arg1{c:J->AV}{ok:J->Prop}(h:∀ N,ShU P N t (fun a=>[c a]) ok)(g:∀(w:j3) (r:Reach) (b:Nat) (v:uk),Value.okWide P w r b t v->v.cells=#[v])
  {H:Type} {enc:j2×uk->H} {w:j3} {r:Reach} {b:Nat} {v:uk} {d:DataW H} {ps:List MemPlace} (i:Value.okWide P w r b t v) (l:DataW.Trod enc P w 0 (fun _=>true) true t v d ps) (o:jD P t d) :
  ∃ a,ok a/\VRel ⟨(·<w.heap.size),[]⟩ w.heap (c a) v:=by
 obtain⟨n,p⟩:=l;obtain⟨a,C,j⟩:=h (n+1) n zOm H enc w _ _ p o;rw[g w r b v i]at j;have:=j.2 0 (c a) rfl;exact⟨a,C,by simpa using this⟩
theorem ShU.argS{ok:J->Prop}{fs:Array Field}(h:∀ N,ShU P N t c ok)(j:P.underlying t=some (.struct fs))
  {H:Type} {enc:j2×uk->H} {w:j3} {r:Reach} {b:Nat} {v:uk} {d:DataW H} {ps:List MemPlace} (g:Value.okWide P w r b t v) (l:DataW.Trod enc P w 0 (fun _=>true) true t v d ps) (o:jD P t d) :
  ∃ a,ok a/\VRel ⟨(·<w.heap.size),[]⟩ w.heap (.agg (c a)) v:=by
 obtain⟨n,p⟩:=l;obtain⟨a,C,i⟩:=h (n+1) n zOm H enc w _ _ p o;unfold Value.okWide at g;rw[j]at g;obtain⟨R,rfl,_,_⟩:=g;refine⟨a,C,.agg _ _ (by simpa[Value.cells] using i.1) (fun k x I=>?_)⟩;have:=i.2 k x I;simpa[Value.cells,qH,zT] using this
end
end Go.EvW
namespace Go.EvW
open Go Go.Ev Go.RowKit Go.ChangeShapes Go.WideShapes
section
variable {J:Type}{c:J->List AV}{ts:List j2}{P:j1}{t:j2}{w:j3}
def Qa(P:j1)(t:j2){J:Type}(c:J->AV)(ok:J->Prop):Prop:=
 ∀(H:Type) (g:j2×uk->H) (w:j3) (r:Reach) (b:Nat) (v:uk) (d:DataW H) (i:List MemPlace),Value.okWide P w r b t v->DataW.Trod g P w 0 (fun _=>true) true t v d i->jD P t d ->
  ∃ a,ok a/\VRel ⟨(·<w.heap.size),[]⟩ w.heap (c a) v
theorem Qa.struct{ok:J->Prop}(g:(Ur P t).isSome=true)(h:∀ N,ShU P N t c ok):Qa P t (fun a => .agg (c a)) ok:=by
 intro H i w r b v d C j l o;unfold Ur at g;split at g
 .rename_i I p;exact ShU.argS h p j l o
 .simp at g
inductive ArgF (P:j1):List j2->{α:Type}->(α->List AV)->(α->Prop)->Prop where
 |nil:ArgF P [] (fun _:Unit=>[]) (fun _=>True)
 |cons {t:j2} {ts:List j2} {α β:Type} {c:α->AV} {ok:α->Prop} {c':β->List AV} {ok':β->Prop} (h:Qa P t c ok) (k:ArgF P ts c' ok'):ArgF P (t :: ts) (fun x:α×β=>c x.1 :: c' x.2) (fun x=>ok x.1/\ok' x.2)
theorem ArgF.read{ok:J->Prop}(h:ArgF P ts c ok){H:Type}{enc:j2×uk->H}{w:j3}{r:Reach}{b:Nat} :
  ∀{g:List uk} {ds:List (DataW H)} {ps:List MemPlace},DataW.TrodAll enc P w 0 (fun _=>true) true ts g ds ps->(∀(j:Nat) t v,ts[j]?=some t->g[j]?=some v->Value.okWide P w r b t v)->(DataW.weightsEach P ts ds).all (·<=reachBytes)=true ->
  ∃ a,ok a/\ds.length=ts.length/\g.length=(c a).length/\∀(k:Nat) x,(c a)[k]?=some x->VRel ⟨(·<w.heap.size),[]⟩ w.heap x (g.getD k xa):=by
 induction h with
 |nil =>
  intro g ds ps i _ _;obtain⟨rfl,rfl,rfl⟩:=trodAll_nil i;exact⟨(),trivial,rfl,rfl,zSp⟩
 | @cons t ts J β c ok c' R h k T =>
  intro g ds ps i I l;obtain⟨v,U,d,a0,p,q,rfl,rfl,rfl,h1,h2⟩:=trodAll_cons i;simp only[DataW.weightsEach,List.all_append,qB]at l;obtain⟨a,ha,hr⟩:=h H enc w r b v d p (I 0 t v rfl rfl) h1 l.1;obtain⟨a',o,C,hl,hg⟩:=T h2 (fun j t v=>I (j+1) t v) l.2;refine⟨(a,a'),⟨ha,o⟩,zP1 C,zP1 hl,fun k x hx=>?_⟩;cases k with
  |zero=>simp at hx;subst hx;simpa using hr
  |succ k =>
   simp only[j7]at hx;simpa[zT] using hg k x hx
theorem mM(j:laidOutB P=true){H:Type}{enc:j2×uk->H}{W l:j3}{sp:Nat->Bool}:∀{ts:List j2} {g:List uk} {ds:List (DataW H)} {ps:List MemPlace},
  (∀ t,t∈ts->P.readableRec t=true/\t<P.types.size)->DataW.TrodAll enc P W 0 (fun _=>true) true ts g ds ps->(∀ p∈ps,W.sameAt l p)->(∀ p∈ps,sp p.block=true)->DataW.TrodAll enc P l 0 sp true ts g ds ps
 | [],g,ds,ps,_,h,_,_=>by
  obtain⟨rfl,rfl,rfl⟩:=trodAll_nil h;exact trodAll_mk0
 |t :: ts,g,ds,ps,o,h,r,C=>by
  obtain⟨v,I,d,J,p,q,rfl,rfl,rfl,g1,R⟩:=trodAll_cons h;have i:=o t zSp;exact trodAll_cons_mk (WideElems.Trod_stays j i.1 i.2 g1 (fun x hx=>r x (by simp[hx])) (fun x hx=>C x (by simp[hx])))
   (mM j (fun t i=>o t (zP1 i)) R (fun x hx=>r x (by simp[hx])) (fun x hx=>C x (by simp[hx])))
theorem qkP{f:wh}{fn:Func}{s:ChangeSpec}{tb:j2}{ok:J->Prop}(hp:fn.params=ts.toArray)(hF:ArgF P ts c ok)(hv:s.vars=[])
  (T:∀(H:Type) (ds:List (DataW H)),ds.length=ts.length->s.fn H ds={ results:=[.lit (.bool true)],args:=ds }) (hr:fn.resultTypes=#[tb]) (U:P.underlying tb=some .bool)
  (hl:laidOutB P=true) (a0:(ts.all fun t=>P.readableRec t&&decide (t<P.types.size))=true) (hS:∀ a,ok a->qd P f (c a) (aB true))
  (H:Type) (o:j2×uk->H) (W:j3) (base:Nat) (args:Array uk) (ds gs:List (DataW H)) (g:List MemPlace)
  (i:∀(j:Nat) t v,fn.params[j]?=some t->args[j]?=some v->Value.okWide P W .any base t v) (hW:DataW.Whole o P fn.params.toList s.vars false W args.toList ds gs g) (C:(DataW.weightsEach P fn.params.toList ds).all (·<=reachBytes)=true) (hT:Zf (·<W.heap.size) W.heap) :
  Calls P f args W fun e W'=>∃ v,e = .returned v/\s.post o P fn false true false false W args v W':=by
 have a1:=hW;obtain⟨p,q,hA,hV,I,a8,_⟩:=hW;rw[hv]at hV;obtain⟨hg,hq⟩:=trodVars_none hV;subst hg;subst hq;rw[zV]at I;subst I;rw[hp]at hA i;obtain⟨a,ha,a2,a3,a4⟩:=hF.read (r := .any) (b:=base) hA (fun j t v h1 h2=>i j t v (zUs h1) (zUs h2)) (by rw[hp]at C;exact C);have R:∀ x,x∈g->x.block<W.heap.size:=fun x hx=>hA.lt x hx
 obtain⟨_,l⟩:=hS a ha;refine(l (·<W.heap.size) W args (Sim.empty (fun _ h=>h) hT) ⟨zUs a3,fun k x hk=>?_⟩).mono fun e W' ⟨a7,v,he,_,_,hb,a5⟩=>?_
 .have:=a4 k x hk
  simpa[qH,zT] using this
 .have a6:v = .bool true:=by cases a5;rfl
  subst a6;refine⟨_,he,ds,[],g,[],g,[],a1,?_,?_,?_,World.keptBut_mono (fun x hx=>⟨hx,.inr (.inl hx)⟩) (hb.frame (·∈g)),fun h=>by cases h⟩
  all_goals try rw[zV]
  all_goals try rw[T H ds a2]
  .rw [hr]
   exact trodAll_cons_mk (p':=[]) (shut_bool U true) trodAll_mk0
  .rw [hp]
   refine mM hl (fun t ht=>?_) hA (fun x hx=>hb.same (R x hx)) (fun x hx=>by simpa using R x hx);have:=qI.1 a0 t ht;simpa using this
  .rw [hv];rfl
theorem ShF.cons'{N o o':Nat}{fs:List (j2×Nat)}{i:Type}{ok:J->Prop}{c':i->List AV}{g:i->Prop}(j:o+P.cellsOf t=o')(h:ShU P N t c ok)(k:ShF P N o' fs c' g) :
  ShF P N o ((t,o) :: fs) (fun x:J×i=>c x.1++c' x.2) (fun x=>ok x.1/\g x.2):=by
 subst j;exact .cons h k
theorem mN:∀{laid:List (String×DataW Unit)} {ps:List MemPlace},DataW.LaidVars P w laid ps->∀ x,x∈laid->∃ g t cs fuel p,P.globalNamed x.1=some g/\(P.globals[g]?).map (·.type)=some t/\w.var? P x.1=some cs/\DataW.trod (fun _=>()) P w 0 (fun _=>true) false fuel t cs.toList=some (x.2,p)
 | [],_,_,x,hx=>by simp at hx
 | (n,d) :: r,ps,h,x,hx=>by
  obtain⟨g,t,cs,fuel,p,q,i,j,l,o,C,_⟩:=h;rcases qt.1 hx with rfl|hx
  .exact ⟨g,t,cs,fuel,p,i,j,l,o⟩
  .exact mN C x hx
theorem qkQ{e:j2}{n fuel:Nat}{k:IntKind}(T:P.underlying t=some (.array n e))(U:P.underlying e=some (.int k))(hc:P.cellsOf e=1)(o:P.cellsOf t=n){cs:List uk}{ns:List Int}{p:List MemPlace}
  (h:DataW.trod (fun _=>()) P w 0 (fun _=>true) false fuel t cs=some (.agg (ns.map fun i => .lit (.int k i)),p)):cs=ns.map fun i => .int k i:=by
 obtain⟨r,m,_,hx,R,hn,g⟩:=DataW.trod_array T h;simp only[Prod.mk.injEq,DataW.agg.injEq]at hx;have hx:=hx.1;have C:ns.length=n:=by have:=congrArg List.length hx;simp at this;omega
 rw[o]at R;rw[hc]at g;apply List.ext_getElem
 .simp [R,C]
 .intro i h1 h2
  have I:=g i zOm;rw[Nat.mul_one]at I;have j:i<r.length:=zOm;rw[qA j]at I;obtain⟨z,J,e2,_⟩:=DataW.trod_int U I;have h4:(r[i]).1=DataW.lit (.int k z):=by rw[e2]
  have l:(ns.map fun i=>(DataW.lit (.int k i):DataW Unit))[i]?=(r.map (·.1))[i]?:=by rw[hx]
  rw[zu,zu,qA j,qA zOm]at l;simp only[zd,qp]at l;rw[h4]at l;simp only[DataW.lit.injEq,Lit.int.injEq,true_and]at l;have h6:(cs.drop i).take 1=[cs[i]]:=by rw[zt h1];rfl
  rw[h6]at J;simp only[List.cons.injEq,and_true]at J;rw[J,K6,l]
theorem qkR{name:String}{g:Nat}{cs:Array uk}(hg:P.globalNamed name=some g)(h:w.var? P name=some cs):∃ e i,w.heap[g]?=some (.cells cs e i):=by
 unfold World.var? at h;rw[hg]at h;simp only[Option.bind_some]at h;split at h
 .rename_i c e i j;cases h;exact⟨e,i,j⟩
 .cases h
end
end Go.EvW
namespace Go.Proofs.YtpagnklaanbmbaaGreatDoor
open Go Go.Ev Go.Proofs Tryz
namespace DT
open Go.EvW Y1 P1 YF
theorem unInt:qb.underlying 3=some (.int .i64):=by kernel_rfl
theorem mO:qb.underlying 4=some .bool:=by kernel_rfl
theorem qkS:qb.underlying 9=some .string:=by kernel_rfl
theorem qkT:qb.underlying 28=some (.slice 3):=by kernel_rfl
theorem qkU:qb.underlying 22=some (.slice 100):=by kernel_rfl
theorem qkV:qb.underlying 23=some (.slice 102):=by kernel_rfl
theorem qkW:qb.underlying 34=some (.slice 36):=by kernel_rfl
theorem qkX:qb.underlying 192=some (.slice 267):=by kernel_rfl
theorem qkY:qb.underlying 24=some (.slice 194):=by kernel_rfl
theorem qkZ:qb.underlying 25=some (.slice 123):=by kernel_rfl
abbrev okI(n:Int):Prop := -9223372036854775808<=n/\n<=9223372036854775807
abbrev okS(s:ByteArray):Prop:=s.size<=140737488351232
instance:Inhabited Nd:=⟨.mk 0 ⟨#[]⟩ 0 [] 0⟩
instance:Inhabited Pd:=⟨⟨⟨#[]⟩,[],default⟩⟩
instance:Inhabited Fld:=⟨⟨⟨#[]⟩,[],false⟩⟩
theorem Q0(N:Nat):ShU qb N 3 (fun n:Int=>[aI n]) okI:=
 (ShU.int unInt N).map (fun n=>n) (fun _=>rfl) (fun n h=>by
  simp[Lit.wf,IntKind.min,IntKind.max,IntKind.signed,IntKind.bits]at h;exact h)
theorem mP(N:Nat):ShU qb N 4 (fun b:Bool=>[aB b]) (fun _=>True):=ShU.bool mO N
theorem Ym(N:Nat):ShU qb N 9 (fun s:ByteArray=>[aS s]) okS:=ShU.string qkS N
theorem Kb(N:Nat):ShU qb N 28 (fun xs:List Int=>[lI xs]) (fun l=>l.length<=140737488351232/\∀ x,x∈l->okI x):=
 ((ShU.slice qkT (Q0 N) (fun _ _=>zKr) (Nat.lt_of_lt_of_eq Nat.zero_lt_one zKr) zKr).le zOm).map (fun l=>l) (fun _=>rfl) fun _ h=>h
theorem qk0(N:Nat):ShU qb N 102 uu (fun f=>f.sorts.length<=140737488351232/\∀ x,x∈f.sorts->okI x):=
 ((ShU.struct (fs:=[(9,0),(28,1),(4,2)]) zKr (.cons' (o':=1) zKr (Ym N) (.cons' (o':=2) zKr (Kb N) (.cons' (o':=3) zKr (mP N) (.nil 3)))) zKr).map
  (fun x=>(⟨x.1,x.2.1,x.2.2.1⟩:Fld)) (fun _=>rfl) (fun x h=>h.2.1)).le zOm
theorem qk1(N:Nat):ShU qb N 100 Zp (fun s=>okS s.1):=
 ((ShU.struct (fs:=[(9,0),(4,1)]) zKr (.cons' (o':=1) zKr (Ym N) (.cons' (o':=2) zKr (mP N) (.nil 2))) zKr).map
  (fun x=>((x.1,x.2.1):ByteArray×Bool)) (fun _=>rfl) (fun x h=>h.1)).le zOm
theorem Us:∀ N:Nat,ShU qb N 36 cNd (fun _=>True)
 | 0=>fun n i=>absurd i zOm
 | N+1 =>
  have ks:ShU qb N 34 (fun l:List Nd=>[.lst false (l.map cNd)]) (fun _=>True):=((ShU.slice qkW (Us N) (fun a _=>(Z2 a).trans zKr) (Nat.lt_of_lt_of_eq (show 0<5 by omega) zKr) zKr).le zOm).map (fun l=>l) (fun _=>rfl) fun _ _=>trivial
  ((ShU.struct (fs:=[(3,0),(9,1),(3,2),(34,3),(3,4)]) zKr
   (.cons' (o':=1) zKr (Q0 N) (.cons' (o':=2) zKr (Ym N) (.cons' (o':=3) zKr (Q0 N) (.cons' (o':=4) zKr ks (.cons' (o':=5) zKr (Q0 N) (.nil 5)))))) zKr)).map
   (fun x=>Nd.mk x.1 x.2.1 x.2.2.1 x.2.2.2.1 x.2.2.2.2.1) (fun x=>by rw[yQ];rfl) fun _ _=>trivial
theorem qk2(N:Nat):ShU qb N 267 cPm (fun p=>okI p.2):=
 ((ShU.struct (fs:=[(9,0),(3,1)]) zKr (.cons' (o':=1) zKr (Ym N) (.cons' (o':=2) zKr (Q0 N) (.nil 2))) zKr).map
  (fun x=>((x.1,x.2.1):ByteArray×Int)) (fun _=>rfl) (fun x h=>h.2.1)).le zOm
theorem qk3(N:Nat):ShU qb N 192 (fun l:List (ByteArray×Int)=>[lPm l]) (fun l=>l.length<=140737488351232):=
 ((ShU.slice qkX (qk2 N) (fun _ _=>zKr) (Nat.lt_of_lt_of_eq (show 0<2 by omega) zKr) zKr).le zOm).map (fun l=>l) (fun _=>rfl) fun _ h=>h.1
theorem qk4(N:Nat):ShU qb N 194 cPd (fun _=>True):=
 ((ShU.struct (fs:=[(9,0),(192,1),(36,2)]) zKr (.cons' (o':=1) zKr (Ym N) (.cons' (o':=2) zKr (qk3 N) (.cons' (o':=7) zKr (Us N) (.nil 7)))) zKr).map
  (fun x=>(⟨x.1,x.2.1,x.2.2.1⟩:Pd)) (fun x=>by simp[cPd]) fun _ _=>trivial).le zOm
theorem qk5(N:Nat):ShU qb N 123 cFa (fun _=>True):=
 ((ShU.struct (fs:=[(9,0),(36,1)]) zKr (.cons' (o':=1) zKr (Ym N) (.cons' (o':=6) zKr (Us N) (.nil 6))) zKr).map
  (fun x=>((x.1,x.2.1):ByteArray×Nd)) (fun x=>by simp[cFa]) fun _ _=>trivial).le zOm
structure okTA (ts:TS):Prop where
 so:∀ x,x∈ts.sorts->okS x.1
 nso:ts.sorts.length<=140737488351232
 nf:ts.fields.length<=140737488351232
 fl:∀ f,f∈ts.fields->f.sorts.length<=140737488351232/\∀ x,x∈f.sorts->okI x
theorem qk6(N:Nat):ShU qb N 27 cTS okTA:=by
 have s1:=(ShU.slice qkU (qk1 N) (fun _ _=>zKr) (Nat.lt_of_lt_of_eq (show 0<2 by omega) zKr) zKr).le (M:=N) zOm;have i:=(ShU.slice qkV (qk0 N) (fun _ _=>zKr) (Nat.lt_of_lt_of_eq (show 0<3 by omega) zKr) zKr).le (M:=N) zOm;have j:=(ShU.slice qkY (qk4 N) (fun a h=>(Qo a).1.trans zKr) (Nat.lt_of_lt_of_eq (show 0<7 by omega) zKr) zKr).le (M:=N) zOm;have l:=(ShU.slice qkZ (qk5 N) (fun a h=>(p7 a).1.trans zKr) (Nat.lt_of_lt_of_eq (show 0<6 by omega) zKr) zKr).le (M:=N) zOm;have U:=ShU.struct (t:=27) (fs:=[(22,0),(23,1),(24,2),(25,3)]) zKr (.cons' (o':=1) zKr s1 (.cons' (o':=2) zKr i (.cons' (o':=3) zKr j (.cons' (o':=4) zKr l (.nil 4))))) zKr;exact(U.map (fun x=>(⟨x.1,x.2.1,x.2.2.1,x.2.2.2.1⟩:TS)) (fun _=>rfl) fun x h=>⟨h.1.2,h.1.1,h.2.1.1,h.2.1.2⟩).le zOm
theorem aSpec:Qa qb 27 eTS okTA:=Qa.struct zKr qk6
theorem mQ:Qa qb 36 eNd (fun _=>True):=Qa.struct zKr Us
end DT
namespace QA
def bA:ByteArray:=⟨#[65]⟩
def bf:ByteArray:=⟨#[102]⟩
def bp:ByteArray:=⟨#[112]⟩
end QA
namespace QB
open Y1 Q6 Q9 QA
def nC:Nd := .mk 45 bf 0 [n6 bA 2,.mk 47 bp 0 [n6 bf 5] 3] 1
theorem h47:anyN (fun n=>decide (n.op=47)) nC=true:=by decide +kernel
theorem wkNd(l:List Nd):WK (.lst true (l.map cNd)) (lNd l):=WK.lst fun r g c i=>by
 obtain⟨n,_,rfl⟩:=qr.1 g;exact jy n c i
def WkR:List (List AV)->List (List AV)->Prop
 | [],[]=>True
 |x :: p,y :: j=>WKs x y/\WkR p j
 |_,_=>False
theorem mR:∀{xs ys g i:List AV},WKs xs ys->WKs g i->WKs (xs++g) (ys++i)
 | [],[],_,_,_,j=>j
 |_ :: _,_ :: _,_,_,⟨h,t⟩,j=>⟨h,mR t j⟩
 | [],_ :: _,_,_,h,_=>h.elim
 |_ :: _,[],_,_,h,_=>h.elim
theorem mS:∀{xs ys:List (List AV)},WkR xs ys->ys.length=xs.length/\(∀(k:Nat) x y,xs[k]?=some x->ys[k]?=some y->x.length=y.length)/\WKs xs.flatten ys.flatten
 | [],[],_=>⟨rfl,fun k x y h=>by simp at h,trivial⟩
 |x :: xs,y :: ys,⟨h,t⟩=>by
  obtain⟨j,l,o⟩:=mS t;refine⟨zP1 j,fun k a b g i=>?_,by rw[wt,wt];exact mR h o⟩;cases k with
  |zero=>simp at g i;subst g;subst i;exact h.get.1.symm
  |succ k=>exact l k a b (zUs g) (zUs i)
 | [],_ :: _,h=>h.elim
 |_ :: _,[],h=>h.elim
theorem jb{full:Bool}{xs ys:List (List AV)}(h:WkR xs ys):WK (.lst full xs) (.lst false ys):=by
 obtain⟨j,C,I⟩:=mS h;have J:=kI j C;have hg:=I.get.2;intro G hp v r;cases r with
 |nil=>cases ys with
  |nil=>exact .nil _
  |cons=>simp at j
 |emp _ a cap P=>cases ys with
  |nil=>exact .emp _ a cap zSp
  |cons=>simp at j
 |lst _ _ l a cap R e T rd U hs hl P hi o hr hv =>
  rw[<-j];have g:∀(k:Nat) y,ys.flatten[k]?=some y->∃ x,xs.flatten[k]?=some x:=by
   intro k y i;have p:k<ys.flatten.length:=(qk.1 i).1;exact⟨xs.flatten[k]' zOm,by simp only[qA (show k<xs.flatten.length by omega)]⟩
  refine .lst false ys l a cap R e T rd U hs zOm zSp hi ?_ ?_ ?_
  .intro r t
   obtain⟨k,p⟩:=List.mem_iff_getElem?.1 t;have a0:k<ys.length:=(qk.1 p).1;have hx:xs[k]?=some (xs[k]' zOm):=by simp[show k<xs.length by omega]
   rw[<-C k _ r hx p];exact o _ (qV hx)
  .intro k y i
   obtain⟨x,hx⟩:=g k y i;exact hr k x hx
  .intro k y i
   obtain⟨x,hx⟩:=g k y i;exact hg k x y hx i G hp _ (hv k x hx)
theorem Kc:∀{xs:List AV},(∀ x,x∈xs->HF x)->WKs xs xs
 | [],_=>trivial
 |x :: xs,h=>⟨.hf (h x (q8 ..)),Kc fun y g=>h y (qY _ g)⟩
theorem Ke(op:Int)(nm:ByteArray)(n:Int){ks:AV}{l:List Nd}(p:Int)(h:WK ks (lNd l)):WKs [aI op,aS nm,aI n,ks,aI p] (cNd (.mk op nm n l p)):=by
 rw[yQ];exact⟨.hf (HF.sc _),.hf (HF.sc _),.hf (HF.sc _),h,.hf (HF.sc _),trivial⟩
theorem mT(op:Int)(nm:ByteArray)(n:Int){ks:AV}{l:List Nd}(p:Int)(h:WK ks (lNd l)):WK (.agg [aI op,aS nm,aI n,ks,aI p]) (eNd (.mk op nm n l p)):=WK.aggs (Ke op nm n p h)
end QB
namespace QC
end QC
namespace QD
open YF P1 Y1 Y2
section
variable {x:ByteArray×Bool}{c:List AV}{i:Nat}
def atF(a:Int):List Int->Int
 | []=>a
 |x :: l=>atF (qj.wrap (qj.wrap (4*a)+x)) l
def zs:List AV:=qZ 64 (aB false)
def oneC(l:List Int):List AV:=aI l.length :: (if 0<=atF 0 l/\atF 0 l<64 then zs.set (atF 0 l).toNat (aB true) else zs)
structure SetC (c:List AV):Prop where
 len:c.length=65
 sc:∀ x,x∈c->x.one=true/\HF x
theorem SetC.one(h:SetC c):∀ x,x∈c->x.one=true:=fun x hx=>(h.sc x hx).1
theorem SetC.hf(h:SetC c):HF (.agg c):=HF.agg fun x hx=>(h.sc x hx).2
theorem SetC.take(h:SetC c):List.take 65 c=c:=ye (by rw[h.len];exact qm _)
theorem SetC.put{d:List AV}(h:SetC c)(g:SetC d):putCells c 0 d=d:=by
 rw[jl _ _ _ (by rw[h.len,g.len];exact qm _)];simp[h.len,g.len,List.drop_of_length_le]
theorem SetC.zero:SetC (aI 0 :: zs):=⟨rfl,fun x hx=>by
 rcases qt.1 hx with rfl|hx
 .exact ⟨rfl,HF.sc _⟩
 .rw [List.eq_of_mem_replicate hx];exact⟨rfl,HF.sc _⟩⟩
theorem SetC.oneC(l:List Int):SetC (oneC l):=by
 have g:∀ x:AV,x∈zs->x.one=true/\HF x:=fun x hx=>by rw[List.eq_of_mem_replicate hx];exact⟨rfl,HF.sc _⟩
 unfold QD.oneC;split
 .refine ⟨by simp[zs],fun x hx=>?_⟩
  rcases qt.1 hx with rfl|hx
  .exact ⟨rfl,HF.sc _⟩
  .rcases List.mem_or_eq_of_mem_set hx with h|rfl
   .exact g x h
   .exact ⟨rfl,HF.sc _⟩
 .refine ⟨by simp[zs],fun x hx=>?_⟩
  rcases qt.1 hx with rfl|hx
  .exact ⟨rfl,HF.sc _⟩
  .exact g x hx
theorem oneU(l:List Int)(hl:l.length<=140737488351232):qd qb 261 [lI l] (.agg (oneC l)):=by
 have i:=SetC.oneC l;generalize C:oneC l=R at *
 unfold oneC at C;refine qd.of_sound (qe.of_awp call261 func261 rfl (qh zKr) zKr (pl:={}) ?_);simp[go_sem];have g:zs.length=64:=rfl;refine qn.upK l.length (fun k U=>∃ a:Int,U.tm 0=lI l/\U.tm 2 = .ptr 0 0/\U.tm 3 = .ptr 1 0/\U.tm 4=aI a/\U.tm 5=aI k/\U.mu=[.arr (aI 0 :: zs),.arr (aI l.length :: zs)]/\atF a (l.drop k)=atF 0 l) ?_ ?_
 .exact ⟨0,zSi,zSi,zSi,zSi,zSi,by simp[go_sem,zs,qZ],rfl⟩
 rintro k U hk ⟨a,I,r,e3,e4,e5,hm,hI⟩;by_cases J:k<l.length
 .have w1:qj.wrap ((k:Int)+1)=(k:Int)+1:=qi zOm zOm
  rw[zt J]at hI;simp[go_sem,I,e4,e5,hm,J,w1];exact Keep.mk' ⟨_,zS1 I,zS1 r,zS1 e3,zSi,zSi,zSi,hI⟩
 have a1:k=l.length:=zOm;subst a1;rw[yk]at hI;have ha:a=atF 0 l:=hI;rw[<-ha]at C;have z1:∀ x:AV,(x :: zs).length=65:=fun x=>rfl
 have o:∀ x:AV,x∈zs->x.one=true:=fun x hx=>by rw[List.eq_of_mem_replicate hx];rfl
 have tk:List.take 64 zs=zs:=rfl;have pc:∀(x y:AV) (Z:List AV),Z.length=64->putCells (x :: zs) 0 (y :: Z)=y :: Z:=fun x y Z hZ=>by
  rw[jl _ _ _ (by simp[hZ,g])];simp[hZ,g,List.drop_of_length_le]
 by_cases h0:0<=a
 .obtain ⟨j,rfl⟩:∃ j:Nat,a=j:=⟨a.toNat,zOm⟩
  by_cases t:(j:Int)<64
  .have hj:1+j<=64:=by omega
   have a2:∀ x:AV,(x :: zs).set (1+j) (AV.sc (Value.bool true))=x :: zs.set j (AV.sc (Value.bool true)):=fun x=>by rw[Nat.add_comm];rfl
   have sl:(zs.set j (AV.sc (Value.bool true))).length=64:=zP1 g;have P:∀ x:AV,x∈zs.set j (AV.sc (Value.bool true))->x.one=true:=fun x hx=>by
    rcases List.mem_or_eq_of_mem_set hx with h|rfl
    .exact o x h
    .rfl
   have a0:List.take 64 (zs.set j (AV.sc (Value.bool true)))=zs.set j (AV.sc (Value.bool true)):=ye zOm;have p:R=aI l.length :: zs.set j (AV.sc (Value.bool true)):=by rw[<-C,if_pos ⟨h0,t⟩];rfl
   generalize zs.set j (AV.sc (Value.bool true))=Z at *
   simp[go_sem,I,r,e3,e4,e5,hm,h0,t,g,hj,a2,sl,a0,pc _ _ _ sl];rw[if_pos P];simp[go_sem,r,sl,a0];rw[p]at i⊢;exact .hf _ i.hf
  .simp [go_sem,I,r,e3,e4,e5,hm,h0,t,g,tk,pc _ _ _ g]
   rw[if_pos o];simp[go_sem,r,g,tk];have p:R=aI l.length :: zs:=by rw[<-C,if_neg zOm]
   rw[p]at i⊢;exact .hf _ i.hf
 .simp [go_sem,I,r,e3,e4,e5,hm,h0,g,tk,pc _ _ _ g]
  rw[if_pos o];simp[go_sem,r,g,tk];have p:R=aI l.length :: zs:=by rw[<-C,if_neg zOm]
  rw[p]at i⊢;exact .hf _ i.hf
abbrev NS:=List AV×Nat
variable {s:NS}
def stF(nm:ByteArray)(f:Fld)(s:NS):NS:=if f.name=nm then (oneC f.sorts,s.2+1) else s
def nmF(nm:ByteArray):List Fld->NS->NS
 | [],s=>s
 |f :: l,s=>nmF nm l (stF nm f s)
def st1(nm:ByteArray)(i:Nat)(x:ByteArray×Bool)(s:NS):NS:=if x.1=nm then (oneC [(i:Int)],s.2+1) else s
def st2(nm:ByteArray)(i:Nat)(x:ByteArray×Bool)(s:NS):NS:=if x.2=true/\x.1++yV=nm then (oneC [(i:Int)],s.2+1) else s
def st3(nm:ByteArray)(i:Nat)(x:ByteArray×Bool)(s:NS):NS:=if x.2=true/\x.1++jM=nm then (oneC [(i:Int),(i:Int)],s.2+1) else s
def nmS(nm:ByteArray):Nat->List (ByteArray×Bool)->NS->NS
 |_,[],s=>s
 |i,x :: l,s=>nmS nm (i+1) l (st3 nm i x (st2 nm i x (st1 nm i x s)))
def named(ts:TS)(nm:ByteArray):NS:=nmS nm 0 ts.sorts (nmF nm ts.fields (aI 0 :: zs,0))
theorem qk7{nm:ByteArray}{f:Fld}(h:SetC s.1):SetC (stF nm f s).1:=by
 unfold stF;split
 .exact SetC.oneC _
 .exact h
theorem mU{nm:ByteArray}(h:SetC s.1):SetC (st1 nm i x s).1:=by
 unfold st1;split
 .exact SetC.oneC _
 .exact h
theorem mV{nm:ByteArray}(h:SetC s.1):SetC (st2 nm i x s).1:=by
 unfold st2;split
 .exact SetC.oneC _
 .exact h
theorem mW{nm:ByteArray}(h:SetC s.1):SetC (st3 nm i x s).1:=by
 unfold st3;split
 .exact SetC.oneC _
 .exact h
theorem st_le{nm:ByteArray}:(st3 nm i x (st2 nm i x (st1 nm i x s))).2<=s.2+3:=by
 have l:(st1 nm i x s).2<=s.2+1:=by unfold st1;split<;>simp
 have g:∀ s:NS,(st2 nm i x s).2<=s.2+1:=fun s=>by unfold st2;split<;>simp
 have j:∀ s:NS,(st3 nm i x s).2<=s.2+1:=fun s=>by unfold st3;split<;>simp
 have:=g (st1 nm i x s);have:=j (st2 nm i x (st1 nm i x s));omega
theorem mX(nm:ByteArray):∀(l:List Fld) (s:NS),SetC s.1->SetC (nmF nm l s).1
 | [],_,h=>h
 |f :: l,s,h=>mX nm l _ (qk7 h)
theorem mY(nm:ByteArray):∀(l:List (ByteArray×Bool)) (i:Nat) (s:NS),SetC s.1->SetC (nmS nm i l s).1
 | [],_,_,h=>h
 |x :: l,i,s,h=>mY nm l _ _ (mW (mV (mU h)))
theorem Kf(ts:TS)(nm:ByteArray):SetC (named ts nm).1:=mY nm _ _ _ (mX nm _ _ SetC.zero)
theorem wk1(i:Int):WK (.lst true [rI i]) (lI [i]):=WK.lst fun r g c j=>by
 rw[qL]at g;subst g;rw[qL]at j;subst j;exact HF.sc _
theorem wk2(i j:Int):WK (.lst true [rI i,rI j]) (lI [i,j]):=WK.lst fun r g c l=>by
 rcases qt.1 g with rfl|g
 .rw [qL]at l;subst l;exact HF.sc _
 .rw [qL]at g;subst g
  rw[qL]at l;subst l;exact HF.sc _
structure okNm (ts:TS):Prop where
 so:∀ x,x∈ts.sorts->x.1.size<=4611686018427387904
 nso:ts.sorts.length<=140737488351232
 nf:ts.fields.length<=140737488351232
 fl:∀ f,f∈ts.fields->f.sorts.length<=140737488351232
theorem Kg(ts:TS)(ha:okNm ts)(nm:ByteArray):qd qb 211 [eTS ts,aS nm] (.tup [.agg (named ts nm).1,aI (named ts nm).2]):=by
  generalize hR:named ts nm=R;unfold named at hR;refine qd.of_sound (qe.of_awp call211 func211 rfl (qh zKr) zKr (pl:={}) ?_);have av:=ha.nf;have aw:zs.length=64:=rfl;have ax:=ha.nso;simp[go_sem];refine qn.upK ts.fields.length (fun i U=>∃ s:NS,U.tm 1=aS nm/\U.tm 2 = .ip (cTS ts)/\U.tm 4 = .ptr 0 0/\U.tm 6 = .ptr 1 0/\U.tm 7=aI s.2/\U.tm 8=aI i/\U.mu=[.arr (aI 0 :: zs),.arr s.1]/\SetC s.1/\s.2<=i/\nmS nm 0 ts.sorts (nmF nm (ts.fields.drop i) s)=R) ?_ ?_
  · exact⟨(aI 0 :: zs,0),zSi,zSi,zSi,zSi,zSi,zSi,by simp[go_sem,zs,qZ],SetC.zero,zSp,zUs hR⟩
  clear hR;rintro i U hi ⟨⟨c,k⟩,C,t,e4,I,J,e8,hm,j,hk,p⟩;have hk:k<=i:=hk;have j:SetC c:=j;by_cases g:i<ts.fields.length
  · have w1:qj.wrap ((i:Int)+1)=(i:Int)+1:=qi zOm zOm
    have w2:qj.wrap ((k:Int)+1)=(k:Int)+1:=qi zOm zOm;rw[zt g]at p;have ho:=oneU ts.fields[i].sorts (ha.fl _ (qy g));have P:=SetC.oneC ts.fields[i].sorts;by_cases hq:ts.fields[i].name=nm
    · simp[go_sem,C,t,e8,hm,g,hq]
      refine qc.pure ho (.zk (yA _) .nil) ?_;simp[go_sem,I,P.len,j.len,j.put P];rw[if_pos P.one];simp[go_sem,J,e8,g,w1,w2];exact Keep.mk' ⟨(oneC ts.fields[i].sorts,k+1),zS1 C,zS1 t,zS1 e4,zS1 I,zSi,zSi,zSi,P,by show k+1<=i+1;omega,by rw[<-p];simp[nmF,stF,hq]⟩
    · simp[go_sem,C,t,e8,hm,g,jA hq,w1]
      exact Keep.mk' ⟨(c,k),zS1 C,zS1 t,zS1 e4,zS1 I,zS1 J,zSi,zSi,j,by show k<=i+1;omega,by rw[<-p];simp[nmF,stF,hq]⟩
  have a9:i=ts.fields.length:=zOm;subst a9;rw[yk]at p;simp only[nmF]at p;simp[go_sem,t,e8,hm];refine qn.upK ts.sorts.length (fun i U=>∃ s:NS,U.tm 1=aS nm/\U.tm 2 = .ip (cTS ts)/\U.tm 4 = .ptr 0 0/\U.tm 6 = .ptr 1 0/\U.tm 7=aI s.2/\U.tm 9=aI i/\U.mu=[.arr (aI 0 :: zs),.arr s.1]/\SetC s.1/\s.2<=ts.fields.length+3*i/\nmS nm i (ts.sorts.drop i) s=R) ?_ ?_
  · exact⟨(c,k),zS1 C,zS1 t,zS1 e4,zS1 I,zS1 J,zSi,zSi,j,by show k<=_;omega,zUs p⟩
  clear C t e4 I J e8 hm j hk p g;rintro i U hi ⟨⟨c,k⟩,C,t,e4,I,J,e9,hm,j,hk,p⟩;have hk:k<=ts.fields.length+3*i:=hk;have j:SetC c:=j;by_cases g:i<ts.sorts.length
  · have w1:qj.wrap ((i:Int)+1)=(i:Int)+1:=qi zOm zOm
    have w2:qj.wrap ((k:Int)+1)=(k:Int)+1:=qi zOm zOm;have w3:qj.wrap ((k:Int)+1+1)=(k:Int)+1+1:=qi zOm zOm;have w4:qj.wrap ((k:Int)+1+1+1)=(k:Int)+1+1+1:=qi zOm zOm;rw[zt g]at p;simp only[nmS]at p;have ah:=oneU [(i:Int)] zSp;have ai:=oneU [(i:Int),(i:Int)] zSp;have r:=SetC.oneC [(i:Int)];have a0:=SetC.oneC [(i:Int),(i:Int)];have aj:=j.put r;have ak:=j.put a0;have al:=r.put r;have an:=r.put a0;have l1:=r.len;have l2:=a0.len;have l0:=j.len;have ao:=st_le (nm:=nm) (i:=i) (x:=ts.sorts[i]) (s:=(c,k));have aq:=mW (nm:=nm) (i:=i) (x:=ts.sorts[i]) (mV (nm:=nm) (i:=i) (x:=ts.sorts[i]) (mU (nm:=nm) (i:=i) (x:=ts.sorts[i]) (s:=(c,k)) j));have a8:=ha.so _ (qy g);have a8:ts.sorts[i].1.size<=4611686018427387904:=a8;generalize ad:ts.sorts[i]=so at *
    obtain⟨o,sb⟩:=so;have ae:o.size<=9223372036854775801:=by simp at a8;omega
    have af:o.size<=9223372036854775802:=by simp at a8;omega
    generalize hN:st3 nm i (o,sb) (st2 nm i (o,sb) (st1 nm i (o,sb) (c,k)))=N at *
    have ar:(o++yV=nm)=(o++(⟨#[95,102,105,114,115,116]⟩:ByteArray)=nm):=rfl;have au:(o++jM=nm)=(o++(⟨#[95,110,101,120,116]⟩:ByteArray)=nm):=rfl;simp only[st1,st2,st3,ar,au]at hN;obtain⟨d1,ag⟩:∃ d,decide (o=nm)=d:=⟨_,rfl⟩;obtain⟨d2,aa⟩:∃ d,decide (o++(⟨#[95,102,105,114,115,116]⟩:ByteArray)=nm)=d:=⟨_,rfl⟩;obtain⟨d3,ab⟩:∃ d,decide (o++(⟨#[95,110,101,120,116]⟩:ByteArray)=nm)=d:=⟨_,rfl⟩;have p1:(o=nm)=(d1=true):=by rw[<-ag];simp
    have p2:(o++(⟨#[95,102,105,114,115,116]⟩:ByteArray)=nm)=(d2=true):=by rw[<-aa];simp
    have p3:(o++(⟨#[95,110,101,120,116]⟩:ByteArray)=nm)=(d3=true):=by rw[<-ab];simp
    simp only[p1,p2,p3]at hN;have done:∀ l:St,l.tm 1=aS nm->l.tm 2 = .ip (cTS ts)->l.tm 4 = .ptr 0 0->l.tm 6 = .ptr 1 0->l.tm 7=aI N.2->l.tm 9=aI (i+1:Nat)->l.mu=[.arr (aI 0 :: zs),.arr N.1] ->
        Keep (fun U=>∃ s:NS,U.tm 1=aS nm/\U.tm 2 = .ip (cTS ts)/\U.tm 4 = .ptr 0 0/\U.tm 6 = .ptr 1 0/\U.tm 7=aI s.2/\U.tm 9=aI (i+1:Nat)/\U.mu=[.arr (aI 0 :: zs),.arr s.1]/\SetC s.1/\s.2<=ts.fields.length+3*(i+1)/\nmS nm (i+1) (ts.sorts.drop (i+1)) s=R) .mk l:=
      fun l a1 a2 a3 a4 a5 a6 a7=>Keep.mk' ⟨N,a1,a2,a3,a4,a5,a6,a7,aq,by have:N.2<=k+3:=ao;omega,p⟩
    cases d1<;>cases d2<;>cases d3<;>cases sb
    all_goals simp only[if_true,if_false,and_false,and_true,reduceCtorEq]at hN
    all_goals simp[go_sem,Y10.u5,C,t,e9,hm,g,ad,ag,aa,ab,w1,ae,af]
    all_goals repeat' (first
      | (refine qc.pure ah (.cons (wk1 _) .nil) ?_
         simp[go_sem,I,aj,al,l0,l1];rw[if_pos r.one];simp[go_sem,Y10.u5,C,t,J,e9,g,ad,aa,ab,w1,w2,w3,ae,af])
      | (refine qc.pure ai (.cons (wk2 _ _) .nil) ?_
         simp[go_sem,I,ak,an,l0,l1,l2];rw[if_pos a0.one];simp[go_sem,J,e9,g,w1,w2,w3,w4]))
    all_goals try subst hN
    all_goals try exact done _ (zS1 C) (zS1 t) (zS1 e4) (zS1 I) (zS1 J) zSi zSi
  have a9:i=ts.sorts.length:=zOm;subst a9;rw[yk]at p;simp only[nmS]at p;subst p;simp[go_sem,t,e4,I,J,e9,hm,j.len,j.take,SetC.zero.put j,SetC.zero.len];rw[if_pos j.one];simp[go_sem,e4,j.len,j.take];refine .hf _ (HF.tup fun x hx=>?_);rcases qt.1 hx with rfl|hx
  · exact j.hf
  · rw[qL]at hx;subst hx;exact HF.sc _
end
end QD
namespace QE
open Y6 QD
abbrev RS:=Int×(Nat->Bool)
def hB(g:Nat->Bool):List AV:=(qu 64).map fun i=>aB (g i)
abbrev cRS(s:RS):List AV:=aI s.1 :: hB s.2
abbrev eRS(s:RS):AV := .agg (cRS s)
theorem qs(g:Nat->Bool):(hB g).length=64:=by simp[hB]
theorem mZ(g:Nat->Bool)(i:Nat)(v:Bool):(hB g).set i (aB v)=hB fun j=>if j=i then v else g j:=by
 refine List.ext_getElem (by simp[hB]) fun j l o=>?_
 rw[List.getElem_set];simp only[hB,K6,List.getElem_range];by_cases h:i=j
 .rw [if_pos h,if_pos h.symm]
 .rw [if_neg h,if_neg (fun e=>h e.symm)]
theorem qk8(g:Nat->Bool)(i:Nat)(h:i<64):(hB g)[i]?=some (aB (g i)):=by
 simp[hB,h]
theorem uE{g i:Nat->Bool}(h:∀ j,j<64->g j=i j):hB g=hB i:=by
 refine List.map_congr_left fun j l=>?_
 rw[h j (yx.1 l)]
theorem setC(s:RS):SetC (cRS s):=⟨by simp[hB],fun x hx=>by
 rcases qt.1 hx with rfl|hx
 .exact ⟨rfl,HF.sc _⟩
 .obtain ⟨j,_,rfl⟩:=qr.1 hx
  exact⟨rfl,HF.sc _⟩⟩
theorem yw(s:RS):HF (eRS s):=(setC s).hf
theorem m5:hB (fun _=>false)=zs:=rfl
def oneS(l:List Int):RS:=(l.length,fun j=>decide ((j:Int)=atF 0 l))
theorem Kh(l:List Int):oneC l=cRS (oneS l):=by
 unfold oneC oneS;simp only[cRS];split
 .rename_i h
  have e:aB true=aB true:=rfl;rw[<-m5,mZ];congr 1;refine uE fun j i=>?_
  by_cases g:j=(atF 0 l).toNat
  .rw [if_pos g];exact(decide_eq_true zOm).symm
  .rw [if_neg g];exact(decide_eq_false zOm).symm
 .rename_i h
  rw[<-m5];congr 1;refine uE fun j i=>?_
  exact(decide_eq_false zOm).symm
def szA(k:Int):Nat:=if k<1 then 1 else if k=1 then 4 else if k=2 then 16 else 64
theorem JB(k:Int):szA k<=64/\1<=szA k:=by unfold szA;split<;>(try split)<;>(try split)<;>omega
theorem Ut(k:Int):qd qb 331 [aI k] (aI (szA k)):=by
 refine qd.of_sound (qe.of_awp call331 func331 rfl (qh zKr) zKr (pl:={}) ?_);unfold szA;by_cases g:k<1
 .simp [go_sem,g];exact .zsc _
 by_cases i:k=1
 .simp [go_sem,i];exact .zsc _
 by_cases j:k=2
 .simp [go_sem,j];exact .zsc _
 simp[go_sem,g,i,j];exact .zsc _
def uniS(a b:RS):RS:=(a.1,fun j=>a.2 j||b.2 j)
def intS(a b:RS):RS:=(a.1,fun j=>a.2 j&&b.2 j)
theorem g1(x:AV)(g:Nat->Bool)(i:Nat)(h:i<64):(x :: hB g)[1+i]?=some (aB (g i)):=by
 rw[Nat.add_comm,j7,qk8 g i h]
theorem d1(x:AV)(g:Nat->Bool)(i:Nat)(h:i<64):List.take 1 (List.drop (1+i) (x :: hB g))=[aB (g i)]:=by
 rw[Nat.add_comm,List.drop_succ_cons,zt (by rw[qs];exact h)];simp[hB]
theorem d0(g:Nat->Bool)(i:Nat)(h:i<64):List.take 1 (List.drop i (hB g))=[aB (g i)]:=by
 rw[zt (by rw[qs];exact h)];simp[hB]
theorem s1(x:AV)(g:Nat->Bool)(i:Nat)(v:Bool):(x :: hB g).set (1+i) (aB v)=x :: hB fun j=>if j=i then v else g j:=by
 rw[Nat.add_comm,List.set_cons_succ,mZ]
theorem zb(g:Nat->Bool):∀ x:AV,x∈hB g->x.one=true:=fun x hx=>by
 obtain⟨j,_,rfl⟩:=qr.1 hx;rfl
theorem tk(g:Nat->Bool):List.take 64 (hB g)=hB g:=ye (by rw[qs];exact qm _)
theorem pc(x y:AV)(g i:Nat->Bool):putCells (x :: hB g) 0 (y :: hB i)=y :: hB i:=by
 rw[jl _ _ _ (by simp[qs])];simp[qs,List.drop_of_length_le]
theorem ve(a b:RS):qd qb 307 [eRS a,eRS b] (eRS (uniS a b)):=by
 refine qd.of_sound (qe.of_awp call307 func307 rfl (qh zKr) zKr (pl:={ mt:=[2] }) ?_);simp[go_sem];refine⟨zb _,zb _,?_⟩;refine qn.upK 64 (fun i U=>U.tm 2 = .ptr 0 0/\U.tm 3 = .ip (cRS b)/\U.tm 4 = .ptr 1 0/\U.tm 5=aI i/\U.mu=[.arr (aI a.1 :: hB (fun j=>if j<i then a.2 j||b.2 j else a.2 j)),.arr (aI 0 :: hB fun _=>false)]) ?_ ?_
 .exact ⟨zSi,zSi,zSi,zSi,by simp[go_sem];rfl⟩
 rintro i U hi ⟨p,I,C,J,P⟩;by_cases l:i<64
 .have o:(i:Int)<64:=by omega
  have r:1+i<=64:=zOm;have w1:qj.wrap ((i:Int)+1)=(i:Int)+1:=qi zOm zOm;generalize hG:(fun j=>if j<i then a.2 j||b.2 j else a.2 j)=G at *
  have R:G i=a.2 i:=by rw[<-hG];simp
  have g:∀ v:Bool,v=(a.2 i||b.2 i)->(aI a.1 :: hB G).set (1+i) (aB v)=aI a.1 :: hB (fun j=>if j<i+1 then a.2 j||b.2 j else a.2 j):=fun v hv=>by
   rw[s1];congr 2;funext j;rw[<-hG,hv];by_cases h1:j=i
   .subst h1;simp
   .by_cases h2:j<i
    .simp [h1,h2,show j<i+1 by omega]
    .simp [h1,h2,show ¬j<i+1 by omega]
  have t:=d1 (aI a.1) G i l;have m2:=d0 b.2 i l;have a0:1<=64-i:=zOm;rw[R]at t;cases ha:a.2 i with
  |true =>
   rw[ha]at t g;have hn:=g true zSp;simp[go_sem,p,J,P,l,o,r,qs,t,hn,w1];exact Keep.mk' ⟨zS1 p,zS1 I,zS1 C,zSi,zSi⟩
  |false =>
   rw[ha]at t g;have hn:=g (b.2 i) zSp;simp[go_sem,p,I,J,P,l,o,r,a0,qs,t,m2,hn,w1];exact Keep.mk' ⟨zS1 p,zS1 I,zS1 C,zSi,zSi⟩
 .have a1:i=64:=by omega
  subst a1;simp[go_sem,p,C,J,P,qs,tk,pc];rw[if_pos (zb _)];simp[go_sem,C,qs,tk];have e:(aI a.1 :: hB fun j=>if j<64 then a.2 j||b.2 j else a.2 j)=cRS (uniS a b):=by
   exact congrArg (aI a.1 :: ·) (uE fun j hj=>if_pos hj)
  rw[e];exact .hf _ (yw _)
theorem V3(a b:RS):qd qb 308 [eRS a,eRS b] (eRS (intS a b)):=by
 refine qd.of_sound (qe.of_awp call308 func308 rfl (qh zKr) zKr (pl:={ mt:=[2] }) ?_);simp[go_sem];refine⟨zb _,zb _,?_⟩;refine qn.upK 64 (fun i U=>U.tm 2 = .ptr 0 0/\U.tm 3 = .ip (cRS b)/\U.tm 4 = .ptr 1 0/\U.tm 5=aI i/\U.mu=[.arr (aI a.1 :: hB (fun j=>if j<i then a.2 j&&b.2 j else a.2 j)),.arr (aI 0 :: hB fun _=>false)]) ?_ ?_
 .exact ⟨zSi,zSi,zSi,zSi,by simp[go_sem];rfl⟩
 rintro i U hi ⟨p,I,C,J,P⟩;by_cases l:i<64
 .have o:(i:Int)<64:=by omega
  have r:1+i<=64:=zOm;have w1:qj.wrap ((i:Int)+1)=(i:Int)+1:=qi zOm zOm;generalize hG:(fun j=>if j<i then a.2 j&&b.2 j else a.2 j)=G at *
  have R:G i=a.2 i:=by rw[<-hG];simp
  have g:∀ v:Bool,v=(a.2 i&&b.2 i)->(aI a.1 :: hB G).set (1+i) (aB v)=aI a.1 :: hB (fun j=>if j<i+1 then a.2 j&&b.2 j else a.2 j):=fun v hv=>by
   rw[s1];congr 2;funext j;rw[<-hG,hv];by_cases h1:j=i
   .subst h1;simp
   .by_cases h2:j<i
    .simp [h1,h2,show j<i+1 by omega]
    .simp [h1,h2,show ¬j<i+1 by omega]
  have t:=d1 (aI a.1) G i l;have m2:=d0 b.2 i l;have a0:1<=64-i:=zOm;rw[R]at t;cases ha:a.2 i with
  |false =>
   rw[ha]at t g;have hn:=g false zSp;simp[go_sem,p,J,P,l,o,r,qs,t,hn,w1];exact Keep.mk' ⟨zS1 p,zS1 I,zS1 C,zSi,zSi⟩
  |true =>
   rw[ha]at t g;have hn:=g (b.2 i) zSp;simp[go_sem,p,I,J,P,l,o,r,a0,qs,t,m2,hn,w1];exact Keep.mk' ⟨zS1 p,zS1 I,zS1 C,zSi,zSi⟩
 .have a1:i=64:=by omega
  subst a1;simp[go_sem,p,C,J,P,qs,tk,pc];rw[if_pos (zb _)];simp[go_sem,C,qs,tk];have e:(aI a.1 :: hB fun j=>if j<64 then a.2 j&&b.2 j else a.2 j)=cRS (intS a b):=by
   exact congrArg (aI a.1 :: ·) (uE fun j hj=>if_pos hj)
  rw[e];exact .hf _ (yw _)
def trS(a:RS):RS:=(2,fun j=>decide (j<16)&&a.2 (j % 4*4+j / 4))
theorem m6(a:RS):qd qb 311 [eRS a] (eRS (trS a)):=by
 refine qd.of_sound (qe.of_awp call311 func311 rfl (qh zKr) zKr (pl:={}) ?_);simp[go_sem];refine⟨zb _,?_⟩;refine qn.upK 16 (fun i U=>U.tm 1 = .ip (cRS a)/\U.tm 2 = .ptr 0 0/\U.tm 3 = .ptr 1 0/\U.tm 4=aI i/\U.mu=[.arr (aI 0 :: hB fun _=>false),.arr (aI 2 :: hB (fun j=>decide (j<16/\j % 4*4+j / 4<i)&&a.2 (j % 4*4+j / 4)))]) ?_ ?_
 .exact ⟨zSi,zSi,zSi,zSi,by simp[go_sem];first|rfl|exact⟨rfl,rfl⟩⟩
 rintro i U hi ⟨R,o,p,e4,r⟩;by_cases t:i<16
 .have l:(i:Int)<16:=by omega
  have w1:qj.wrap ((i:Int)+1)=(i:Int)+1:=qi zOm zOm;obtain⟨q,hq⟩:∃ q:Nat,q=i % 4*4+i / 4:=⟨_,rfl⟩;have a0:q<16:=zOm;have w2:qj.wrap ((i:Int).tmod 4)=((i % 4:Nat):Int):=by
   rw[Qe zOm];rw[qi zOm zOm];omega
  have w3:qj.wrap (qj.wrap ((i:Int).tmod 4*4)+qj.wrap ((i:Int) / 4))=(q:Int):=by
   have x1:qj.wrap ((i:Int) % 4*4)=(i:Int) % 4*4:=qi zOm zOm;have x2:qj.wrap ((i:Int) / 4)=(i:Int) / 4:=qi zOm zOm;rw[Qe zOm,x1,x2,qi zOm zOm];omega
  generalize hG:(fun j=>decide (j<16/\j % 4*4+j / 4<i)&&a.2 (j % 4*4+j / 4))=G at *
  have g:(aI 2 :: hB G).set (1+q) (aB (a.2 i))=aI 2 :: hB (fun j=>decide (j<16/\j % 4*4+j / 4<i+1)&&a.2 (j % 4*4+j / 4)):=by
   rw[s1];refine congrArg (aI 2 :: ·) (uE fun j hj=>?_);rw[<-hG];by_cases C:j=q
   .have h2:j % 4*4+j / 4=i:=by omega
    rw[if_pos C,h2,decide_eq_true ⟨zOm,zOm⟩];rfl
   .have h2:¬(j<16/\j % 4*4+j / 4=i):=fun h=>C zOm
    rw[if_neg C];have h3:(j<16/\j % 4*4+j / 4<i+1)=(j<16/\j % 4*4+j / 4<i):=propext ⟨fun h=>⟨h.1,zOm⟩,fun h=>⟨h.1,zOm⟩⟩;rw[show decide (j<16/\j % 4*4+j / 4<i+1)=decide (j<16/\j % 4*4+j / 4<i) from decide_eq_decide.2 (by rw[h3])]
  have m2:=d0 a.2 i zOm;have I:(i:Int)<64:=zOm;have J:1<=64-i:=zOm;simp[go_sem,R,p,e4,r,t,l,I,J,m2,qs,w1,w3,show (q:Int)<64 by omega,show 1+q<=64 by omega,g];exact Keep.mk' ⟨zS1 R,zS1 o,zS1 p,zSi,zSi⟩
 .have P:i=16:=by omega
  subst P;have e:hB (fun j=>decide (j<16/\j % 4*4+j / 4<16)&&a.2 (j % 4*4+j / 4))=hB (trS a).2:=by
   refine uE fun j hj=>?_
   rw[show decide (j<16/\j % 4*4+j / 4<16)=decide (j<16) from decide_eq_decide.2 ⟨fun h=>h.1,fun h=>⟨h,zOm⟩⟩];rfl
  rw[e]at r;have hT:eRS (trS a) = .agg (aI 2 :: hB (trS a).2):=rfl;rw[hT];generalize (trS a).2=T at *
  simp[go_sem,o,p,e4,r,qs,tk,pc];rw[if_pos (zb _)];simp[go_sem,o,qs,tk];exact .hf _ (yw (2,T))
def wQ(a b:RS)(j:Nat):Bool:=a.2 (j / szA b.1)&&b.2 (j % szA b.1)
def Ki(a b:RS):RS:=(a.1+b.1,fun j=>decide (j<szA a.1*szA b.1)&&wQ a b j)
theorem qk9(f:Nat->Bool)(p:Nat)(v:Bool)(i:v=f p):∀ j,(if j=p then v else decide (j<p)&&f j)=(decide (j<p+1)&&f j):=fun j=>by
 by_cases g:j=p
 .subst g;simp[i]
 .rw [if_neg g,show decide (j<p+1)=decide (j<p) from decide_eq_decide.2 zOm]
theorem m7(a b:RS)(ha:0<=a.1/\a.1<=1000)(hb:0<=b.1/\b.1<=1000):qd qb 310 [eRS a,eRS b] (eRS (Ki a b)):=by
 refine qd.of_sound (qe.of_awp call310 func310 rfl (qh zKr) zKr (pl:={}) ?_);have w0:qj.wrap (a.1+b.1)=a.1+b.1:=qi zOm zOm;have ag:=JB a.1;have ah:=JB b.1;have ca:=Ut a.1;have cb:=Ut b.1;have hf:∀ j,wQ a b j=(a.2 (j / szA b.1)&&b.2 (j % szA b.1)):=fun _=>rfl
 simp[go_sem,qs];refine⟨zb _,zb _,?_⟩;simp[go_sem,w0];refine qc.pure cb (.zs .nil) ?_;generalize hE:Ki a b=E;have aa:E=(a.1+b.1,fun j=>decide (j<szA a.1*szA b.1)&&wQ a b j):=hE.symm;clear hE;generalize wQ a b=F at *
 generalize szA a.1=sa at *
 generalize szA b.1=n at *
 simp[go_sem];refine qn.upK sa (fun i U=>U.tm 2 = .ip (cRS a)/\U.tm 3 = .ip (cRS b)/\U.tm 4 = .ptr 0 0/\U.tm 5 = .ptr 1 0/\U.tm 6=aI n/\U.tm 7=aI i/\U.mu=[.arr (aI 0 :: hB fun _=>false),.arr (aI (a.1+b.1) :: hB (fun j=>decide (j<i*n)&&F j))]) ?_ ?_
 .exact ⟨zSi,zSi,zSi,zSi,zSi,zSi,by simp[go_sem];first|rfl|exact⟨rfl,rfl⟩⟩
 rintro i U hi ⟨l,C,J,P,o,r,R⟩;simp[go_sem,l,r,R];refine qc.pure ca (.zs .nil) ?_;by_cases a7:i<sa
 .have w1:qj.wrap ((i:Int)+1)=(i:Int)+1:=qi zOm zOm
  simp[go_sem,a7];refine qn.upK n (fun k U=>U.tm 2 = .ip (cRS a)/\U.tm 3 = .ip (cRS b)/\U.tm 4 = .ptr 0 0/\U.tm 5 = .ptr 1 0/\U.tm 6=aI n/\U.tm 7=aI i/\U.tm 8=aI k/\U.mu=[.arr (aI 0 :: hB fun _=>false),.arr (aI (a.1+b.1) :: hB (fun j=>decide (j<i*n+k)&&F j))]) ?_ ?_
  .exact ⟨zS1 l,zS1 C,zS1 J,zS1 P,zS1 o,zS1 r,zSi,zSi⟩
  clear l C J P o r R;rintro k U hk ⟨l,C,J,P,o,r,e8,R⟩;by_cases t:k<n
  .have w2:qj.wrap ((k:Int)+1)=(k:Int)+1:=qi zOm zOm
   obtain⟨p,hp⟩:∃ p:Nat,p=i*n+k:=⟨_,rfl⟩;have a8:((i:Int)*n+k)=(p:Int):=by rw[hp];push_cast;rfl
   have ai:i*n<=63*64:=Nat.mul_le_mul zOm zOm;have w3:qj.wrap ((i:Int)*n)=(i:Int)*n:=by
    have:((i*n:Nat):Int)=(i:Int)*n:=by push_cast;rfl
    rw[<-this];exact qi zOm zOm
   have w4:qj.wrap (p:Int)=(p:Int):=qi zOm zOm;have a3:F p=(a.2 i&&b.2 k):=by
    rw[hf,hp,Nat.add_comm,Nat.add_mul_div_right _ _ zOm,Nat.add_mul_mod_self_right,Nat.div_eq_of_lt t,Nat.mod_eq_of_lt t,yy]
   have m1:=d0 a.2 i zOm;have m2:=d0 b.2 k zOm;have a0:1<=64-i:=zOm;have a4:1<=64-k:=zOm;have a1:(i:Int)<64:=zOm;have a5:(k:Int)<64:=zOm;have hq:∀ x:AV,(x :: hB (fun j=>decide (j<p)&&F j)).set (1+p) (aB true)=x :: hB (fun j=>if j=p then true else decide (j<p)&&F j):=fun x=>s1 x _ p true
   rw[<-hp]at R;have ab:F p=true->(fun j=>if j=p then true else decide (j<p)&&F j)=(fun j=>decide (j<p+1)&&F j):=fun h=>funext (qk9 F p true h.symm)
   have ad:F p=true->∀ x:AV,(x :: hB (fun j=>decide (j<p)&&F j)).set (1+p) (AV.sc (Value.bool true))=x :: hB (fun j=>decide (j<p+1)&&F j):=fun h x=>by rw[<-ab h];exact hq x
   have a6:(F p=false\/64<=p)->hB (fun j=>decide (j<p)&&F j)=hB (fun j=>decide (j<p+1)&&F j):=fun h=>uE fun j hj=>by
    by_cases h1:j=p
    .rcases h with h|h
     .rw [h1,h];simp
     .omega
    .rw [show decide (j<p+1)=decide (j<p) from decide_eq_decide.2 zOm]
   have done:∀ g:St,g.tm 2 = .ip (cRS a)->g.tm 3 = .ip (cRS b)->g.tm 4 = .ptr 0 0->g.tm 5 = .ptr 1 0->g.tm 6=aI n->g.tm 7=aI i->g.tm 8=aI (k+1:Nat)->g.mu=[.arr (aI 0 :: hB fun _=>false),.arr (aI (a.1+b.1) :: hB (fun j=>decide (j<p+1)&&F j))]->Keep (fun U=>U.tm 2 = .ip (cRS a)/\U.tm 3 = .ip (cRS b)/\U.tm 4 = .ptr 0 0/\U.tm 5 = .ptr 1 0/\U.tm 6=aI n/\U.tm 7=aI i/\U.tm 8=aI (k+1:Nat)/\U.mu=[.arr (aI 0 :: hB fun _=>false),.arr (aI (a.1+b.1) :: hB (fun j=>decide (j<i*n+(k+1))&&F j))]) .mk g:=
    fun g b1 b2 b3 b4 b5 b6 b7 b8=>Keep.mk' ⟨b1,b2,b3,b4,b5,b6,b7,by rw[b8,hp];rfl⟩
   cases I:a.2 i with
   |false =>
    rw[I]at m1;simp[go_sem,l,o,r,e8,R,t,qs,m1,a0,a1,w2];exact done _ (zS1 l) (zS1 C) (zS1 J) (zS1 P) (zS1 o) (zS1 r) zSi (by simp[go_sem,a6 (.inl (by rw[a3,I];rfl))])
   |true =>
    rw[I]at m1;cases a2:b.2 k with
    |false =>
     rw[a2]at m2;simp[go_sem,l,C,o,r,e8,R,t,qs,m1,m2,a0,a4,a1,a5,w2];exact done _ (zS1 l) (zS1 C) (zS1 J) (zS1 P) (zS1 o) (zS1 r) zSi (by simp[go_sem,a6 (.inl (by rw[a3,I,a2];rfl))])
    |true =>
     rw[a2]at m2;by_cases a9:(p:Int)<64
     .simp [go_sem,l,C,P,o,r,e8,R,t,qs,m1,m2,a0,a4,a1,a5,w2,w3,a8,w4,a9,show 1+p<=64 by omega,ad (by rw[a3,I,a2];rfl)]
      exact done _ (zS1 l) (zS1 C) (zS1 J) (zS1 P) (zS1 o) (zS1 r) zSi zSi
     .simp [go_sem,l,C,o,r,e8,R,t,qs,m1,m2,a0,a4,a1,a5,w2,w3,a8,w4,a9]
      exact done _ (zS1 l) (zS1 C) (zS1 J) (zS1 P) (zS1 o) (zS1 r) zSi (by simp[go_sem,a6 (.inr zOm)])
  .have ae:k=n:=by omega
   subst ae;rw[show i*k+k=(i+1)*k by rw[Nat.add_mul,Nat.one_mul]]at R;simp[go_sem,o,r,e8,R,w1];exact⟨a7,Keep.mk' ⟨zS1 l,zS1 C,zS1 J,zS1 P,zS1 o,zSi,zSi⟩⟩
 .have af:i=sa:=by omega
  subst af;rw[aa];generalize (fun j=>decide (j<i*n)&&F j)=T at *
  simp[go_sem,J,P,qs,tk,pc];rw[if_pos (zb _)];simp[go_sem,J,qs,tk];exact .hf _ (yw (_,T))
def rowJ(a b:RS)(i g j:Nat):Bool:=(qu g).any fun k=>decide (i / 4*(szA b.1 / 4)+k % (szA b.1 / 4)=j)&&(decide (i % 4=k / (szA b.1 / 4))&&(a.2 i&&b.2 k))
def ZI(a b:RS):RS:=(a.1+b.1-2,fun j=>(qu (szA a.1)).any fun i=>rowJ a b i (szA b.1) j)
theorem qlA(a b:RS)(i k j:Nat):rowJ a b i (k+1) j=(rowJ a b i k j||(decide (i / 4*(szA b.1 / 4)+k % (szA b.1 / 4)=j)&&(decide (i % 4=k / (szA b.1 / 4))&&(a.2 i&&b.2 k)))):=by
 unfold rowJ;rw[List.range_succ,List.any_append];simp
theorem qlB{k:Int}(h:1<=k):4<=szA k:=by unfold szA;split<;>(try split)<;>(try split)<;>omega
theorem uX(a b:RS)(ha:0<=a.1/\a.1<=1000)(hb:1<=b.1/\b.1<=1000):qd qb 309 [eRS a,eRS b] (eRS (ZI a b)):=by
 refine qd.of_sound (qe.of_awp call309 func309 rfl (qh zKr) zKr (pl:={}) ?_);have w0:qj.wrap (a.1+b.1)=a.1+b.1:=qi zOm zOm;have ab:qj.wrap (a.1+b.1-2)=a.1+b.1-2:=qi zOm zOm;have aj:=JB a.1;have ak:=JB b.1;have al:=qlB hb.1;have ca:=Ut a.1;have cb:=Ut b.1;have hR:∀ i k j,rowJ a b i (k+1) j=(rowJ a b i k j||(decide (i / 4*(szA b.1 / 4)+k % (szA b.1 / 4)=j)&&(decide (i % 4=k / (szA b.1 / 4))&&(a.2 i&&b.2 k)))):=qlA a b;have ad:∀ i j,rowJ a b i 0 j=false:=fun i j=>rfl
 simp[go_sem,qs];refine⟨zb _,zb _,?_⟩;simp[go_sem,w0,ab];refine qc.pure cb (.zs .nil) ?_;generalize hE:ZI a b=E;have ae:E=(a.1+b.1-2,fun j=>(qu (szA a.1)).any fun i=>rowJ a b i (szA b.1) j):=hE.symm;clear hE;generalize rowJ a b=F at *
 generalize szA a.1=sa at *
 generalize szA b.1=sb at *
 obtain⟨n,hn⟩:∃ n:Nat,n=sb / 4:=⟨_,rfl⟩;have an:1<=n/\n<=16:=zOm;have wn:qj.wrap ((sb:Int) / 4)=(n:Int):=by rw[qi zOm zOm];omega
 rw[<-hn]at hR;simp[go_sem,wn];refine qn.upK sa (fun i U=>U.tm 2 = .ip (cRS a)/\U.tm 3 = .ip (cRS b)/\U.tm 4 = .ptr 0 0/\U.tm 5 = .ptr 1 0/\U.tm 6=aI n/\U.tm 7=aI i/\U.mu=[.arr (aI 0 :: hB fun _=>false),.arr (aI (a.1+b.1-2) :: hB (fun j=>(qu i).any fun i=>F i sb j))]) ?_ ?_
 .exact ⟨zSi,zSi,zSi,zSi,zSi,zSi,by simp[go_sem];first|rfl|exact⟨rfl,rfl⟩⟩
 rintro i U hi ⟨l,r,C,I,t,o,hm⟩;simp[go_sem,l,o,hm];refine qc.pure ca (.zs .nil) ?_;by_cases a9:i<sa
 .have w1:qj.wrap ((i:Int)+1)=(i:Int)+1:=qi zOm zOm
  generalize hP:(fun j=>(qu i).any fun i=>F i sb j)=P at *
  simp[go_sem,a9];refine qn.upK sb (fun k U=>U.tm 2 = .ip (cRS a)/\U.tm 3 = .ip (cRS b)/\U.tm 4 = .ptr 0 0/\U.tm 5 = .ptr 1 0/\U.tm 6=aI n/\U.tm 7=aI i/\U.tm 8=aI k/\U.mu=[.arr (aI 0 :: hB fun _=>false),.arr (aI (a.1+b.1-2) :: hB (fun j=>P j||F i k j))]) ?_ ?_
  .exact ⟨zS1 l,zS1 r,zS1 C,zS1 I,zS1 t,zS1 o,zSi,zS1 ad⟩
  clear l r C I t o hm;rintro k U hk ⟨l,r,C,I,t,o,e8,hm⟩;simp[go_sem,r,e8,hm];refine qc.pure cb (.zs .nil) ?_;by_cases J:k<sb
  .have w2:qj.wrap ((k:Int)+1)=(k:Int)+1:=qi zOm zOm
   obtain⟨p,hp⟩:∃ p:Nat,p=i / 4*n+k % n:=⟨_,rfl⟩;have ao:k % n<n:=Nat.mod_lt _ zOm;have aq:i / 4*n<=15*16:=Nat.mul_le_mul zOm zOm;have y1:((i / 4:Nat):Int)=(i:Int) / 4:=zOm;have y2:((i / 4*n:Nat):Int)=(i:Int) / 4*n:=by rw[<-y1];push_cast;rfl
   have y3:((k % n:Nat):Int)=(k:Int) % n:=rfl;have y4:((k / n:Nat):Int)=(k:Int) / n:=rfl;have af:k / n<=64:=zP (Nat.div_le_self k n) zOm;have x1:qj.wrap ((i:Int) / 4)=(i:Int) / 4:=qi zOm zOm;have x2:qj.wrap ((i:Int) / 4*n)=(i:Int) / 4*n:=by rw[<-y2];exact qi zOm zOm
   have x4:qj.wrap ((i:Int) / 4*n+(k:Int) % n)=(p:Int):=by rw[<-y2,<-y3,qi zOm zOm,hp];push_cast;rfl
   have a8:qj.wrap ((i:Int) / 4*n+(k:Int).tmod n)=(p:Int):=by rw[Qe zOm];exact x4
   have x5:qj.wrap ((k:Int) / n)=(k:Int) / n:=by
    rw[<-y4];clear y4;generalize k / n=c at af⊢;exact qi zOm zOm
   have R:¬n=0:=zOm;have m1:=d0 a.2 i zOm;have m2:=d0 b.2 k zOm;have a0:1<=64-i:=zOm;have a2:1<=64-k:=zOm;have a1:(i:Int)<64:=zOm;have a3:(k:Int)<64:=zOm;have a4:((decide (i % 4=k / n)&&(a.2 i&&b.2 k))=false\/64<=p)->hB (fun j=>P j||F i k j)=hB (fun j=>P j||F i (k+1) j):=fun h=>uE fun j hj=>by
    rw[hR,<-hp];rcases h with h|h
    .rw [h,Bool.and_false,Bool.or_false]
    .rw [decide_eq_false zOm,Bool.false_and,Bool.or_false]
   have ag:(decide (i % 4=k / n)&&(a.2 i&&b.2 k))=true->∀ x:AV,(x :: hB (fun j=>P j||F i k j)).set (1+p) (AV.sc (Value.bool true))=x :: hB (fun j=>P j||F i (k+1) j):=fun h x=>by
    refine(s1 x _ p true).trans (congrArg (x :: ·) (uE fun j hj=>?_));rw[hR,<-hp,h,Bool.and_true];by_cases h1:j=p
    .rw [if_pos h1,h1];simp
    .rw [if_neg h1,decide_eq_false (fun e=>h1 e.symm),Bool.or_false]
   have done:∀ g:St,g.tm 2 = .ip (cRS a)->g.tm 3 = .ip (cRS b)->g.tm 4 = .ptr 0 0->g.tm 5 = .ptr 1 0->g.tm 6=aI n->g.tm 7=aI i->g.tm 8=aI (k+1:Nat)->g.mu=[.arr (aI 0 :: hB fun _=>false),.arr (aI (a.1+b.1-2) :: hB (fun j=>P j||F i (k+1) j))]->Keep (fun U=>U.tm 2 = .ip (cRS a)/\U.tm 3 = .ip (cRS b)/\U.tm 4 = .ptr 0 0/\U.tm 5 = .ptr 1 0/\U.tm 6=aI n/\U.tm 7=aI i/\U.tm 8=aI (k+1:Nat)/\U.mu=[.arr (aI 0 :: hB fun _=>false),.arr (aI (a.1+b.1-2) :: hB (fun j=>P j||F i (k+1) j))]) .mk g:=
    fun g b1 b2 b3 b4 b5 b6 b7 b8=>Keep.mk' ⟨b1,b2,b3,b4,b5,b6,b7,b8⟩
   cases a5:a.2 i with
   |false =>
    rw[a5]at m1;simp[go_sem,l,t,o,e8,J,qs,x1,x2,R,m1,a0,a1,w2];exact done _ (zS1 l) (zS1 r) (zS1 C) (zS1 I) (zS1 t) (zS1 o) zSi (by simp[go_sem,a4 (.inl (by rw[a5];simp))])
   |true =>
    rw[a5]at m1;cases a6:b.2 k with
    |false =>
     rw[a6]at m2;simp[go_sem,l,r,t,o,e8,J,qs,x1,x2,R,m1,m2,a0,a1,a2,a3,w2];exact done _ (zS1 l) (zS1 r) (zS1 C) (zS1 I) (zS1 t) (zS1 o) zSi (by simp[go_sem,a4 (.inl (by rw[a6];simp))])
    |true =>
     rw[a6]at m2;by_cases hq:i % 4=k / n
     .have a7:(i:Int).tmod 4=(k:Int) / n:=by rw[Qe zOm,<-y4,<-hq];rfl
      by_cases aa:(p:Int)<64
      .simp [go_sem,l,r,I,t,o,e8,J,qs,x1,x2,a8,x5,R,m1,m2,a0,a1,a2,a3,w2,a7,aa,show 1+p<=64 by omega,ag (by rw[decide_eq_true hq,a5,a6];rfl)]
       exact done _ (zS1 l) (zS1 r) (zS1 C) (zS1 I) (zS1 t) (zS1 o) zSi zSi
      .simp [go_sem,l,r,t,o,e8,J,qs,x1,x2,a8,x5,R,m1,m2,a0,a1,a2,a3,w2,a7,aa]
       exact done _ (zS1 l) (zS1 r) (zS1 C) (zS1 I) (zS1 t) (zS1 o) zSi (by simp[go_sem,a4 (.inr zOm)])
     .have a7:¬(i:Int).tmod 4=(k:Int) / n:=fun e=>hq (by rw[Qe zOm,<-y4]at e;exact Int.ofNat.inj e)
      simp[go_sem,l,r,t,o,e8,J,qs,x1,x2,a8,x5,R,m1,m2,a0,a1,a2,a3,w2,a7];exact done _ (zS1 l) (zS1 r) (zS1 C) (zS1 I) (zS1 t) (zS1 o) zSi (by simp[go_sem,a4 (.inl (by rw[decide_eq_false hq];rfl))])
  .have ah:k=sb:=by omega
   subst ah;simp[go_sem,o,w1];exact⟨a9,Keep.mk' ⟨zS1 l,zS1 r,zS1 C,zS1 I,zS1 t,zSi,by simp[go_sem];rw[<-hP]⟩⟩
 .have ai:i=sa:=by omega
  subst ai;rw[ae];generalize (fun j=>(qu i).any fun i=>F i sb j)=T at *
  simp[go_sem,C,I,qs,tk,pc];rw[if_pos (zb _)];simp[go_sem,C,qs,tk];exact .hf _ (yw (_,T))
end QE
namespace PB
open P1 P2 Y1 Y2 Y6 Y9 Y12 YW QB
section
variable {b':Kd}
def Sub(a b:Kd):Prop:=a.ar=b.ar/\∀ t,t∈a.ts->t∈b.ts
theorem qlC{n m:Nat}{a g b b':List Tp}(i:∀ t,t∈a->t∈g)(j:∀ t,t∈b->t∈b'):∀ t,t∈ux n m a b->t∈ux n m g b':=fun t l=>by
 obtain⟨x,y,⟨hx,o⟩,hf⟩:=wP.1 l;exact wP.2 ⟨x,y,⟨i x hx,j y o⟩,hf⟩
theorem qlD{n m:Nat}{a g b b':List Tp}(i:∀ t,t∈a->t∈g)(j:∀ t,t∈b->t∈b'):∀ t,t∈wO n m a b->t∈wO n m g b':=fun t l=>by
 obtain⟨x,y,⟨hx,o⟩,hf⟩:=Z7.1 l;exact Z7.2 ⟨x,y,⟨i x hx,j y o⟩,hf⟩
theorem Uu{a j b:Kd}(g:Sub a j)(i:Sub b b'):Sub (zI a b) (zI j b'):=by
 refine⟨by simp only[zI];rw[g.1,i.1],fun t l=>?_⟩;simp only[zI]at l⊢;rw[<-g.1,<-i.1];exact qlC g.2 i.2 t l
theorem qlE{a j b:Kd}(g:Sub a j)(i:Sub b b'):Sub (uy a b) (uy j b'):=by
 refine⟨by simp only[uy];rw[g.1,i.1],fun t l=>?_⟩;simp only[uy]at l⊢;rw[<-g.1,<-i.1];exact qlD g.2 i.2 t l
theorem Za{a b:Kd}{t:Tp}:t∈(kSum a b).ts↔t∈a.ts\/t∈b.ts:=by
 show t∈uni (uni [] a.ts) b.ts↔_;rw[vE,vE];simp
theorem m8{a g b:Kd}(i:Sub a g)(j:∀ t,t∈b.ts->t∈b'.ts):Sub (kSum a b) (kSum g b'):=
 ⟨i.1,fun t l=>Za.2 ((Za.1 l).imp (i.2 t) (j t))⟩
theorem Sub.refl(a:Kd):Sub a a:=⟨rfl,fun _ h=>h⟩
theorem Sub.trans{a b c:Kd}(h:Sub a b)(k:Sub b c):Sub a c:=⟨h.1.trans k.1,fun t g=>k.2 t (h.2 t g)⟩
theorem Kj(a b:Kd):Sub a (kSum a b):=⟨rfl,fun t g=>Za.2 (.inl g)⟩
theorem qlF{a g:Kd}(i:Sub a g):Sub (kTr a) (kTr g):=⟨rfl,fun t j=>by
 obtain⟨x,hx,e⟩:=V5.1 j;exact V5.2 ⟨x,i.2 x hx,e⟩⟩
def Uv(k:Kd):Prop:=∀ t,t∈(zI k k).ts->t∈k.ts
theorem Kk:∀(f n:Nat) (a:Kd),Sub a (cloN f n a)
 | 0,n,a => .refl a
 |f+1,n,a=>by
  unfold cloN;split
  .exact (Kj a _).trans (Kk f _ _)
  .exact .refl a
theorem Kl{S:Kd}(i:Uv S):∀(f n:Nat) (a:Kd),Sub a S->Sub (cloN f n a) S
 | 0,n,a,h=>h
 |f+1,n,a,h=>by
  unfold cloN;split
  .refine Kl i f _ _ ⟨h.1,fun t g=>?_⟩
   rcases Za.1 g with g|g
   .exact h.2 t g
   .exact i t ((Uu h h).2 t g)
  .exact h
theorem Km{ns:Nat}(i:ns<=4):∀(f n:Nat) (a:Kd),okKd ns a->a.ar=2->70<=f+n->(n=0\/∃ p,okKd ns p/\p.ar=2/\n=p.ts.length/\a=kSum p (zI p p))->Uv (cloN f n a)
 | 0,n,a,g,r,hf,C=>by
  rcases C with rfl|⟨p,hp,_,rfl,_⟩
  .omega
  .have:=okKd.le64 hp i
   omega
 |f+1,n,a,g,r,hf,C=>by
  unfold cloN;split
  .rename_i R
   have T:okKd ns (zI a a):=Js g g zOm zOm;refine Km i f _ _ (Jq g T (by simp only[zI];omega)) r zOm (.inr ⟨a,g,r,rfl,rfl⟩)
  .rename_i U
   rcases C with rfl|⟨p,hp,a0,rfl,rfl⟩
   .have:a.ts=[]:=ug zOm
    intro t j;obtain⟨x,y,⟨hx,_⟩,_⟩:=wP.1 j;rw[this]at hx;exact absurd hx qE
   .have l:∀ t,t∈(kSum p (zI p p)).ts->t∈p.ts:=by
     have a1:(kSum p (zI p p)).ts.Nodup:=g.nd;have I:∀ t,t∈p.ts->t∈(kSum p (zI p p)).ts:=(Kj p _).2;intro t j;by_cases J:t∈p.ts
     .exact J
     .exfalso
      have o:(t :: p.ts).Nodup:=vb.2 ⟨J,hp.nd⟩;have:=jT o (l₂:=(kSum p (zI p p)).ts) (fun x hx=>by
       rcases qt.1 hx with rfl|hx
       .exact j
       .exact I x hx)
      simp only[zG]at this;omega
    intro t j;have P:Sub (kSum p (zI p p)) p:=⟨rfl,l⟩;exact Za.2 (.inr ((Uu P P).2 t j))
theorem m9{ns:Nat}(g:ns<=4){a u:Kd}(h:Sub a u)(i:okKd ns u)(j:u.ar=2):Sub (kClo a) (kClo u):=
 Kl (Km g 70 0 u i j zOm (.inl rfl)) 70 0 a (h.trans (Kk 70 0 u))
theorem qaA(c:Ck):∀(m:Nat) (n:Nd) (s:Scp) (k:Option Kd),szN n<=m->exam c s true n = .ok k->exam c s false n = .ok k
 | 0,n,_,_,R,_=>by obtain⟨op,nm,i,ks,p⟩:=n;simp[szN]at R
 |m+1,n,s,k,R,h=>by
  have T:∀ x,x∈n.kids->∀(s:Scp) (g:Bool) (k:Option Kd),exam c s true x = .ok k->exam c s g x = .ok k:=fun x hx s g k h=>by
   cases g with
   |true=>exact h
   |false=>exact qaA c m x s k (zW1 (zS hx)) h
  have U:∀(l:List Nd),(∀ x,x∈l->x∈n.kids)->∀(s:Scp) (g:Bool) (r:List (Option Kd)),qQ c s true l = .ok r->qQ c s g l = .ok r:=by
   intro l;induction l with
   |nil=>intro _ s g r h;exact h
   |cons x l J =>
    intro hl s g r h;simp only[qQ]at h⊢;cases hx:exam c s true x with
    |error e=>rw[hx]at h;cases h
    |ok a =>
     rw[hx]at h;rw[T x (hl x (q8 ..)) s g a hx];simp only at h⊢;cases j:qQ c s true l with
     |error e=>rw[j]at h;cases h
     |ok I =>
      rw[j]at h;rw[J (fun y t=>hl y (qY _ t)) s g I j];exact h
  rw[yD]at h⊢;simp only[Bool.true_and,Bool.false_and,Bool.true_or,Bool.false_or,Bool.false_eq_true,if_false]at h⊢;split at h
  .cases h
  by_cases h1:n.op=1
  .rw [if_pos h1]at h⊢;exact h
  rw[if_neg h1]at h⊢;by_cases h47:n.op=47
  .rw [if_pos h47]at h⊢;exact h
  rw[if_neg h47]at h⊢;by_cases hb:n.op=15\/n.op=45\/n.op=46
  .rw [if_pos hb]at h⊢
   cases C:n.kids with
   |nil=>rw[C]at h;exact h
   |cons x l =>
    have o:∀ y,y∈x :: l->y∈n.kids:=fun y t=>by rw[C];exact t
    rw[C]at h;simp only[z8]at h⊢;cases hx:exam c s true x with
    |error e=>rw[hx]at h;cases h
    |ok a =>
     rw[hx]at h;rw[T x (o x (q8 ..)) s _ a hx];cases a with
     |none=>cases h
     |some a =>
      simp only at h⊢;split at h
      .rename_i P
       rw[if_pos P];cases j:qQ c ((n.name,a) :: s) true l with
       |error e=>rw[j]at h;cases h
       |ok I =>
        rw[j]at h;rw[U l (fun y t=>o y (qY _ t)) _ _ I j];exact h
      .cases h
  rw[if_neg hb]at h⊢;cases j:qQ c s true n.kids with
  |error e=>rw[j]at h;cases h
  |ok I =>
   rw[j]at h;rw[U n.kids (fun y t=>t) _ _ I j];exact h
section
variable {ts:TS} (ok:okTS ts) (a b d:Nd)
include ok
end
end
end PB
end Go.Proofs.YtpagnklaanbmbaaGreatDoor
