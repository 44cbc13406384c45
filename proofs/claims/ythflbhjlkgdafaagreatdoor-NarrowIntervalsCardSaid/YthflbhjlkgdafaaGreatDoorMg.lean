/-
  Own library, part 7: an abstract reading of values and a calculus over it; contracts of functions; plain lemmas.
-/
import Derived.Test.YthflbhjlkgdafaaGreatDoorMf
set_option linter.unusedVariables false
set_option linter.unusedSimpArgs false
set_option maxRecDepth 100000
open Go.Proofs.Tryz renaming prog->qg
open List renaming getElem?_eq_some_iff->ql,mem_map->qp,range->qu,getElem_mem->qv,getElem?_eq_getElem->qy,mem_cons->qz,getElem?_set_self->qJ,getElem?_append_left->qL,replicate->qM,not_mem_nil->qO,mem_append->qP,mem_singleton->qX,all_eq_true->qY,mem_cons_of_mem->q9,take_length->za,drop_eq_getElem_cons->ze,map_append->zi,length_append->zj,mem_cons_self->zo,append_assoc->zL,length_map->zT,take_of_length_le->zU,mem_range->zW,getElem?_append_right->zZ,append_nil->ye,drop_length->yf,length_cons->yy,nil_append->y8,take_succ_eq_append_getElem->wd,flatMap_cons->we,getElem?_eq_none->w6
open Nat renaming le_refl->qn,le_trans->zQ,zero_add->yJ
open Go.IntKind renaming i64->qo
open Option.some renaming injEq->qs
open Bool renaming and_eq_true->qD,eq_iff_iff->uc
open Int renaming mul_le_mul->jv,tmod_eq_emod_of_nonneg->vJ
open List.cons renaming injEq->vK
namespace Go.Proofs.YthflbhjlkgdafaaGreatDoor
open Go Go.Ev Go.Proofs Tryz
namespace QD
open YF P1 Y1 Y2
section
variable {x:dC×Bool}{c:List AV}{i:Nat}
def atF(a:Int):List Int->Int
 | []=>a
 |x :: l=>atF (qo.wrap (qo.wrap (4*a)+x)) l
def zs:List AV:=qM 64 (aB false)
def oneC(l:List Int):List AV:=aI l.length :: (if 0<=atF 0 l/\atF 0 l<64 then zs.set (atF 0 l).toNat (aB true) else zs)
structure SetC (c:List AV):Prop where
 len:c.length=65
 sc:∀ x,x∈c->x.one=true/\HF x
theorem SetC.one(h:SetC c):∀ x,x∈c->x.one=true:=fun x g=>(h.sc x g).1
theorem SetC.hf(h:SetC c):HF (.agg c):=HF.agg fun x g=>(h.sc x g).2
theorem SetC.take(h:SetC c):List.take 65 c=c:=zU (by rw[h.len];omega)
theorem SetC.put{d}(h:SetC c)(g:SetC d):putCells c 0 d=d:=by
 rw[jm _ _ _ (by rw[h.len,g.len];omega)];simp[h.len,g.len,List.drop_of_length_le]
theorem SetC.zero:SetC (aI 0 :: zs):=⟨rfl,fun x g=>by
 rcases qz.1 g with rfl|g
 .exact ⟨rfl,HF.sc _⟩
 .rw [List.eq_of_mem_replicate g];exact⟨rfl,HF.sc _⟩⟩
theorem SetC.oneC(l):SetC (oneC l):=by
 have i:∀ x:AV,x∈zs->x.one=true/\HF x:=fun x g=>by rw[List.eq_of_mem_replicate g];exact⟨rfl,HF.sc _⟩
 unfold QD.oneC;split
 .refine ⟨by simp[zs],fun x g=>?_⟩
  rcases qz.1 g with rfl|g
  .exact ⟨rfl,HF.sc _⟩
  .rcases List.mem_or_eq_of_mem_set g with h|rfl
   .exact i x h
   .exact ⟨rfl,HF.sc _⟩
 .refine ⟨by simp[zs],fun x g=>?_⟩
  rcases qz.1 g with rfl|g
  .exact ⟨rfl,HF.sc _⟩
  .exact i x g
theorem oneU(l)(hl:l.length<=140737488351232):qj qg 261 [lI l] (.agg (oneC l)):=by
 have g:=SetC.oneC l;generalize I:oneC l=R at *
 unfold oneC at I;refine qSU call261 func261 rfl ?_;have i:zs.length=64:=rfl;refine aP l.length (fun k U=>∃ a:Int,U.tm 0=lI l/\U.tm 2 = .ptr 0 0/\U.tm 3 = .ptr 1 0/\U.tm 4=aI a/\U.tm 5=aI k/\U.mu=[.arr (aI 0 :: zs),.arr (aI l.length :: zs)]/\atF a (l.drop k)=atF 0 l) ?_ ?_
 .exact ⟨0,zSi,zSi,zSi,zSi,zSi,by simp[go_sem,zs,qM],rfl⟩
 rintro k U hk ⟨a,J,t,e3,e4,e5,hm,hI⟩;by_cases P:k<l.length
 .have w1:=zWk k
  rw[ze P]at hI;simp[go_sem,J,e4,e5,hm,P,w1];exact aM ⟨_,zS1 J,zS1 t,zS1 e3,zSi,zSi,zSi,hI⟩
 have a1:k=l.length:=zOm;subst a1;rw[yf]at hI;have ha:a=atF 0 l:=hI;rw[<-ha]at I;have z1:∀ x:AV,(x :: zs).length=65:=fun x=>rfl
 have o:∀ x:AV,x∈zs->x.one=true:=fun x hx=>by rw[List.eq_of_mem_replicate hx];rfl
 have tk:List.take 64 zs=zs:=rfl;have pc:∀(x y:AV)(Z:List AV),Z.length=64->putCells (x :: zs) 0 (y :: Z)=y :: Z:=fun x y Z hZ=>by
  grind [jm,List.drop_of_length_le]
 by_cases h0:0<=a
 .obtain ⟨j,rfl⟩:∃ j:Nat,a=j:=⟨a.toNat,zOm⟩
  by_cases C:(j:Int)<64
  .have hj:1+j<=64:=by omega
   have a2:∀ x:AV,(x :: zs).set (1+j) (AV.sc (Value.bool true))=x :: zs.set j (AV.sc (Value.bool true)):=fun x=>by rw[Nat.add_comm];rfl
   have sl:(zs.set j (AV.sc (Value.bool true))).length=64:=zP1 i;have T:∀ x:AV,x∈zs.set j (AV.sc (Value.bool true))->x.one=true:=fun x hx=>by
    rcases List.mem_or_eq_of_mem_set hx with h|rfl
    .exact o x h
    .rfl
   have a0:List.take 64 (zs.set j (AV.sc (Value.bool true)))=zs.set j (AV.sc (Value.bool true)):=zU zOm;have p:R=aI l.length :: zs.set j (AV.sc (Value.bool true)):=by rw[<-I,if_pos ⟨h0,C⟩];rfl
   generalize zs.set j (AV.sc (Value.bool true))=Z at *
   simp[go_sem,J,t,e3,e4,e5,hm,h0,C,i,hj,a2,sl,a0,pc _ _ _ sl];rw[if_pos T];simp[go_sem,t,sl,a0];rw[p]at g⊢;exact .hf _ g.hf
  .simp [go_sem,J,t,e3,e4,e5,hm,h0,C,i,tk,pc _ _ _ i]
   rw[if_pos o];simp[go_sem,t,i,tk];have p:R=aI l.length :: zs:=by rw[<-I,zIn]
   rw[p]at g⊢;exact .hf _ g.hf
 .simp [go_sem,J,t,e3,e4,e5,hm,h0,i,tk,pc _ _ _ i]
  rw[if_pos o];simp[go_sem,t,i,tk];have p:R=aI l.length :: zs:=by rw[<-I,zIn]
  rw[p]at g⊢;exact .hf _ g.hf
abbrev NS:=List AV×Nat
variable {s:NS}
def stF(nm:dC)(f:Fld)(s:NS):NS:=if f.name=nm then (oneC f.sS,s.2+1) else s
def nmF(nm:dC):List Fld->NS->NS
 | [],s=>s
 |f :: l,s=>nmF nm l (stF nm f s)
def st1(nm:dC)(i:Nat)(x:dC×Bool)(s:NS):NS:=if x.1=nm then (oneC [(i:Int)],s.2+1) else s
def st2(nm:dC)(i:Nat)(x:dC×Bool)(s:NS):NS:=if x.2=true/\x.1++yP=nm then (oneC [(i:Int)],s.2+1) else s
def st3(nm:dC)(i:Nat)(x:dC×Bool)(s:NS):NS:=if x.2=true/\x.1++jq=nm then (oneC [(i:Int),(i:Int)],s.2+1) else s
def nmS(nm:dC):Nat->List (dC×Bool)->NS->NS
 |_,[],s=>s
 |i,x :: l,s=>nmS nm (i+1) l (st3 nm i x (st2 nm i x (st1 nm i x s)))
def named(ts:TS)(nm:dC):NS:=nmS nm 0 ts.sS (nmF nm ts.sA (aI 0 :: zs,0))
theorem qpU{nm f}(h:SetC s.1):SetC (stF nm f s).1:=by
 grind [stF,SetC.oneC]
theorem qdX{nm}(h:SetC s.1):SetC (st1 nm i x s).1:=by
 grind [st1,SetC.oneC]
theorem qdY{nm}(h:SetC s.1):SetC (st2 nm i x s).1:=by
 grind [st2,SetC.oneC]
theorem qdZ{nm}(h:SetC s.1):SetC (st3 nm i x s).1:=by
 grind [st3,SetC.oneC]
theorem st_le{nm}:(st3 nm i x (st2 nm i x (st1 nm i x s))).2<=s.2+3:=by
 have g:(st1 nm i x s).2<=s.2+1:=by grind [st1]
 have j:∀ s:NS,(st2 nm i x s).2<=s.2+1:=fun s=>by grind [st2]
 have l:∀ s:NS,(st3 nm i x s).2<=s.2+1:=fun s=>by grind [st3]
 grind
theorem qd0(nm):∀ l s,SetC s.1->SetC (nmF nm l s).1
 | [],_,h=>h
 |f :: l,s,h=>qd0 nm l _ (qpU h)
theorem qd1(nm):∀ l i s,SetC s.1->SetC (nmS nm i l s).1
 | [],_,_,h=>h
 |x :: l,i,s,h=>qd1 nm l _ _ (qdZ (qdY (qdX h)))
theorem kC(ts nm):SetC (named ts nm).1:=qd1 nm _ _ _ (qd0 nm _ _ SetC.zero)
theorem wk1(i):WK (.lst true [rI i]) (lI [i]):=WK.lst fun r g c j=>by
 grind [qX,HF.sc]
theorem wk2(i j):WK (.lst true [rI i,rI j]) (lI [i,j]):=WK.lst fun r g c l=>by
 rcases qz.1 g with rfl|g
 .grind [qX,HF.sc]
 grind [qX,HF.sc]
structure okNm (ts:TS):Prop where
 so:∀ x,x∈ts.sS->x.1.size<=4611686018427387904
 nso:ts.sS.length<=140737488351232
 nf:ts.sA.length<=140737488351232
 fl:∀ f,f∈ts.sA->f.sS.length<=140737488351232
theorem kE(ts)(ha:okNm ts)(nm):qj qg 215 [eTS ts,aS nm] (.tup [.agg (named ts nm).1,aI (named ts nm).2]):=by
  generalize hR:named ts nm=R;unfold named at hR;refine qSV call215 func215 rfl ?_;have ar:=ha.nf;have au:zs.length=64:=rfl;have av:=ha.nso;simp[go_sem];refine aP ts.sA.length (fun i U=>∃ s:NS,U.tm 1=aS nm/\U.tm 2 = .ip (cTS ts)/\U.tm 4 = .ptr 0 0/\U.tm 6 = .ptr 1 0/\U.tm 7=aI s.2/\U.tm 8=aI i/\U.mu=[.arr (aI 0 :: zs),.arr s.1]/\SetC s.1/\s.2<=i/\nmS nm 0 ts.sS (nmF nm (ts.sA.drop i) s)=R) ?_ ?_
  · exact⟨(aI 0 :: zs,0),zSi,zSi,zSi,zSi,zSi,zSi,by simp[go_sem,zs,qM],SetC.zero,zSp,zUs hR⟩
  clear hR;rintro i U hi ⟨⟨c,k⟩,P,C,e4,T,e7,e8,hm,j,hk,t⟩;have hk:k<=i:=hk;have j:SetC c:=j;by_cases g:i<ts.sA.length
  · have w1:=zWk i
    have w2:=zWk k;rw[ze g]at t;have ho:=oneU ts.sA[i].sS (ha.fl _ (qv g));have I:=SetC.oneC ts.sA[i].sS;by_cases hq:ts.sA[i].name=nm
    · simp[go_sem,P,C,e8,hm,g,hq]
      refine t8 ho (.zk (zy _) .nil) ?_;simp[go_sem,T,I.len,j.len,j.put I];rw[if_pos I.one];simp[go_sem,e7,e8,g,w1,w2];exact aM ⟨(oneC ts.sA[i].sS,k+1),zS1 P,zS1 C,zS1 e4,zS1 T,zSi,zSi,zSi,I,zOm,by grind [nmF,stF]⟩
    · simp[go_sem,P,C,e8,hm,g,j0 hq,w1]
      exact aM ⟨(c,k),zS1 P,zS1 C,zS1 e4,zS1 T,by simp[go_sem,e7],zSi,zSi,j,zOm,by grind [nmF,stF]⟩
  have a0:i=ts.sA.length:=zOm;subst a0;rw[yf]at t;simp only[nmF]at t;simp[go_sem,C,e8,hm];refine aP ts.sS.length (fun i U=>∃ s:NS,U.tm 1=aS nm/\U.tm 2 = .ip (cTS ts)/\U.tm 4 = .ptr 0 0/\U.tm 6 = .ptr 1 0/\U.tm 7=aI s.2/\U.tm 9=aI i/\U.mu=[.arr (aI 0 :: zs),.arr s.1]/\SetC s.1/\s.2<=ts.sA.length+3*i/\nmS nm i (ts.sS.drop i) s=R) ?_ ?_
  · simp[go_sem, *]
  clear P C e4 T e7 e8 hm j hk t g;rintro i U hi ⟨⟨c,k⟩,P,C,e4,T,e7,e9,hm,j,hk,t⟩;have hk:k<=ts.sA.length+3*i:=hk;have j:SetC c:=j;by_cases g:i<ts.sS.length
  · have w1:=zWk i
    have w2:=zWk k;have w3:qo.wrap ((k:Int)+1+1)=(k:Int)+1+1:=zWr;have w4:qo.wrap ((k:Int)+1+1+1)=(k:Int)+1+1+1:=zWr;rw[ze g]at t;simp only[nmS]at t;have af:=oneU [(i:Int)] zSp;have ag:=oneU [(i:Int),(i:Int)] zSp;have p:=SetC.oneC [(i:Int)];have J:=SetC.oneC [(i:Int),(i:Int)];have ah:=j.put p;have ai:=j.put J;have aj:=p.put p;have ak:=p.put J;have l1:=p.len;have l2:=J.len;have l0:=j.len;have aw:=st_le (nm:=nm) (i:=i) (x:=ts.sS[i]) (s:=(c,k));have al:=qdZ (nm:=nm) (i:=i) (x:=ts.sS[i]) (qdY (nm:=nm) (i:=i) (x:=ts.sS[i]) (qdX (nm:=nm) (i:=i) (x:=ts.sS[i]) (s:=(c,k)) j));have a8:=ha.so _ (qv g);have a8:ts.sS[i].1.size<=4611686018427387904:=a8;generalize a9:ts.sS[i]=so at *
    obtain⟨o,sb⟩:=so;have aa:o.size<=9223372036854775801:=by grind
    have ab:o.size<=9223372036854775802:=zOm;generalize hN:st3 nm i (o,sb) (st2 nm i (o,sb) (st1 nm i (o,sb) (c,k)))=N at *
    have an:(o++yP=nm)=(o++(⟨#[95,102,105,114,115,116]⟩:dC)=nm):=rfl;have ao:(o++jq=nm)=(o++(⟨#[95,110,101,120,116]⟩:dC)=nm):=rfl;simp only[st1,st2,st3,an,ao]at hN;obtain⟨d1,aq⟩:∃ d,decide (o=nm)=d:=⟨_,rfl⟩;obtain⟨d2,ad⟩:∃ d,decide (o++(⟨#[95,102,105,114,115,116]⟩:dC)=nm)=d:=⟨_,rfl⟩;obtain⟨d3,ae⟩:∃ d,decide (o++(⟨#[95,110,101,120,116]⟩:dC)=nm)=d:=⟨_,rfl⟩;have p1:(o=nm)=(d1=true):=by grind
    have p2:(o++(⟨#[95,102,105,114,115,116]⟩:dC)=nm)=(d2=true):=by grind
    have p3:(o++(⟨#[95,110,101,120,116]⟩:dC)=nm)=(d3=true):=by grind
    simp only[p1,p2,p3]at hN;have done:∀ l:St,l.tm 1=aS nm->l.tm 2 = .ip (cTS ts)->l.tm 4 = .ptr 0 0->l.tm 6 = .ptr 1 0->l.tm 7=aI N.2->l.tm 9=aI (i+1:Nat)->l.mu=[.arr (aI 0 :: zs),.arr N.1] ->
        Keep (fun U=>∃ s:NS,U.tm 1=aS nm/\U.tm 2 = .ip (cTS ts)/\U.tm 4 = .ptr 0 0/\U.tm 6 = .ptr 1 0/\U.tm 7=aI s.2/\U.tm 9=aI (i+1:Nat)/\U.mu=[.arr (aI 0 :: zs),.arr s.1]/\SetC s.1/\s.2<=ts.sA.length+3*(i+1)/\nmS nm (i+1) (ts.sS.drop (i+1)) s=R) .mk l:=
      fun l a1 a2 a3 a4 a5 a6 a7=>aM ⟨N,a1,a2,a3,a4,a5,a6,a7,al,zOm,t⟩
    cases d1<;>cases d2<;>cases d3<;>cases sb
    all_goals simp only[if_true,if_false,and_false,and_true,reduceCtorEq]at hN
    all_goals simp[go_sem,Y10.jd,P,C,e9,hm,g,a9,aq,ad,ae,w1,aa,ab]
    all_goals repeat' (first
      | (refine t8 af (.cons (wk1 _) .nil) ?_
         simp[go_sem,T,ah,aj,l0,l1];rw[if_pos p.one];simp[go_sem,Y10.jd,P,C,e7,e9,g,a9,ad,ae,w1,w2,w3,aa,ab])
      | (refine t8 ag (.cons (wk2 _ _) .nil) ?_
         simp[go_sem,T,ai,ak,l0,l1,l2];rw[if_pos J.one];simp[go_sem,e7,e9,g,w1,w2,w3,w4]))
    all_goals try subst hN
    all_goals simp_all[go_sem]
  have a0:i=ts.sS.length:=zOm;subst a0;rw[yf]at t;simp only[nmS]at t;subst t;simp[go_sem,C,e4,T,e7,e9,hm,j.len,j.take,SetC.zero.put j,SetC.zero.len];rw[if_pos j.one];simp[go_sem,e4,j.len,j.take];refine .hf _ (HF.tup fun x hx=>?_);rcases qz.1 hx with rfl|hx
  · exact j.hf
  grind [qX,HF.sc]
end
end QD
namespace QE
open Y6 QD
abbrev RS:=Int×(Nat->Bool)
def hB(g:Nat->Bool):List AV:=(qu 64).map fun i=>aB (g i)
abbrev cRS(s:RS):List AV:=aI s.1 :: hB s.2
abbrev eRS(s:RS):AV := .agg (cRS s)
theorem qw(g):(hB g).length=64:=by simp[hB]
theorem qd2(g i v):(hB g).set i (aB v)=hB fun j=>if j=i then v else g j:=by
 refine List.ext_getElem (by simp[hB]) fun j l o=>?_
 rw[List.getElem_set];simp only[hB,List.getElem_map,List.getElem_range];by_cases h:i=j
 .rw [if_pos h,if_pos h.symm]
 .rw [if_neg h,if_neg (fun e=>h e.symm)]
theorem qpV(g i)(h:i<64):(hB g)[i]?=some (aB (g i)):=by
 simp[hB,h]
theorem u7{g i}(h:∀ j,j<64->g j=i j):hB g=hB i:=by
 refine List.map_congr_left fun j l=>?_
 rw[h j (zW.1 l)]
theorem setC(s):SetC (cRS s):=⟨by simp[hB],fun x g=>by
 rcases qz.1 g with rfl|g
 .exact ⟨rfl,HF.sc _⟩
 .obtain ⟨j,_,rfl⟩:=qp.1 g
  exact⟨rfl,HF.sc _⟩⟩
theorem yS(s):HF (eRS s):=(setC s).hf
theorem qd3:hB (fun _=>false)=zs:=rfl
def oneS(l:List Int):RS:=(l.length,fun j=>decide ((j:Int)=atF 0 l))
theorem kF(l):oneC l=cRS (oneS l):=by
 unfold oneC oneS;simp only[cRS];split
 .rename_i h
  have e:aB true=aB true:=rfl;rw[<-qd3,qd2];congr 1;refine u7 fun j i=>?_
  by_cases g:j=(atF 0 l).toNat
  .rw [if_pos g];exact(decide_eq_true zOm).symm
  .rw [if_neg g];exact(decide_eq_false zOm).symm
 .rename_i h
  rw[<-qd3];congr 1;refine u7 fun j i=>?_
  exact(decide_eq_false zOm).symm
def szA(k:Int):Nat:=if k<1 then 1 else if k=1 then 4 else if k=2 then 16 else 64
theorem Vv(k):szA k<=64/\1<=szA k:=by unfold szA;split<;>(try split)<;>(try split)<;>omega
theorem Wf(k):qj qg 300 [aI k] (aI (szA k)):=by
 refine qSV call300 func300 rfl ?_;unfold szA;by_cases g:k<1
 .simp [go_sem,g];exact .zsc _
 by_cases i:k=1
 .simp [go_sem,i];exact .zsc _
 by_cases j:k=2
 .simp [go_sem,j];exact .zsc _
 simp[go_sem,g,i,j];exact .zsc _
def uniS(a b:RS):RS:=(a.1,fun j=>a.2 j||b.2 j)
def intS(a b:RS):RS:=(a.1,fun j=>a.2 j&&b.2 j)
theorem g1(x g i)(h:i<64):(x :: hB g)[1+i]?=some (aB (g i)):=by
 rw[Nat.add_comm,List.getElem?_cons_succ,qpV g i h]
theorem d1(x g i)(h:i<64):List.take 1 (List.drop (1+i) (x :: hB g))=[aB (g i)]:=by
 rw[Nat.add_comm,List.drop_succ_cons,ze (by rw[qw];exact h)];simp[hB]
theorem d0(g i)(h:i<64):List.take 1 (List.drop i (hB g))=[aB (g i)]:=by
 rw[ze (by rw[qw];exact h)];simp[hB]
theorem s1(x g i v):(x :: hB g).set (1+i) (aB v)=x :: hB fun j=>if j=i then v else g j:=by
 rw[Nat.add_comm,List.set_cons_succ,qd2]
theorem zb(g):∀ x,x∈hB g->x.one=true:=fun x i=>by
 obtain⟨j,_,rfl⟩:=qp.1 i;rfl
theorem tk(g):List.take 64 (hB g)=hB g:=zU (by rw[qw];exact qn _)
theorem pc(x y g i):putCells (x :: hB g) 0 (y :: hB i)=y :: hB i:=by
 rw[jm _ _ _ (by simp[qw])];simp[qw,List.drop_of_length_le]
theorem jy(a b):qj qg 281 [eRS a,eRS b] (eRS (uniS a b)):=by
 refine qSQ call281 func281 rfl { mt:=[2] } ?_;simp[go_sem];refine⟨zb _,zb _,?_⟩;refine aP 64 (fun i U=>U.tm 2 = .ptr 0 0/\U.tm 3 = .ip (cRS b)/\U.tm 4 = .ptr 1 0/\U.tm 5=aI i/\U.mu=[.arr (aI a.1 :: hB (fun j=>if j<i then a.2 j||b.2 j else a.2 j)),.arr (aI 0 :: hB fun _=>false)]) ?_ ?_
 .exact ⟨zSi,zSi,zSi,zSi,by simp[go_sem];rfl⟩
 rintro i U hi ⟨p,J,I,P,R⟩;by_cases l:i<64
 .have o:(i:Int)<64:=by omega
  have t:1+i<=64:=zOm;have w1:=zWk i;generalize hG:(fun j=>if j<i then a.2 j||b.2 j else a.2 j)=G at *
  have T:G i=a.2 i:=by rw[<-hG];simp
  have g:∀ v:Bool,v=(a.2 i||b.2 i)->(aI a.1 :: hB G).set (1+i) (aB v)=aI a.1 :: hB (fun j=>if j<i+1 then a.2 j||b.2 j else a.2 j):=fun v hv=>by
   rw[s1];congr 2;funext j;rw[<-hG,hv];by_cases h1:j=i
   .subst h1;simp
   .by_cases h2:j<i
    .simp [h1,h2,show j<i+1 by omega]
    .simp [h1,h2,show ¬j<i+1 by omega]
  have C:=d1 (aI a.1) G i l;have m2:=d0 b.2 i l;have a0:1<=64-i:=zOm;rw[T]at C;cases ha:a.2 i with
  |true =>
   rw[ha]at C g;have hn:=g true zSp;simp[go_sem,p,P,R,l,o,t,qw,C,hn,w1];exact aM ⟨zS1 p,zS1 J,zS1 I,zSi,zSi⟩
  |false =>
   rw[ha]at C g;have hn:=g (b.2 i) zSp;simp[go_sem,p,J,P,R,l,o,t,a0,qw,C,m2,hn,w1];exact aM ⟨zS1 p,zS1 J,zS1 I,zSi,zSi⟩
 .have a1:i=64:=by omega
  subst a1;simp[go_sem,p,I,P,R,qw,tk,pc];rw[if_pos (zb _)];simp[go_sem,I,qw,tk];have e:(aI a.1 :: hB fun j=>if j<64 then a.2 j||b.2 j else a.2 j)=cRS (uniS a b):=by
   exact congrArg (aI a.1 :: ·) (u7 fun j hj=>if_pos hj)
  rw[e];exact .hf _ (yS _)
theorem YQ(a b):qj qg 282 [eRS a,eRS b] (eRS (intS a b)):=by
 refine qSQ call282 func282 rfl { mt:=[2] } ?_;simp[go_sem];refine⟨zb _,zb _,?_⟩;refine aP 64 (fun i U=>U.tm 2 = .ptr 0 0/\U.tm 3 = .ip (cRS b)/\U.tm 4 = .ptr 1 0/\U.tm 5=aI i/\U.mu=[.arr (aI a.1 :: hB (fun j=>if j<i then a.2 j&&b.2 j else a.2 j)),.arr (aI 0 :: hB fun _=>false)]) ?_ ?_
 .exact ⟨zSi,zSi,zSi,zSi,by simp[go_sem];rfl⟩
 rintro i U hi ⟨p,J,I,P,R⟩;by_cases l:i<64
 .have o:(i:Int)<64:=by omega
  have t:1+i<=64:=zOm;have w1:=zWk i;generalize hG:(fun j=>if j<i then a.2 j&&b.2 j else a.2 j)=G at *
  have T:G i=a.2 i:=by rw[<-hG];simp
  have g:∀ v:Bool,v=(a.2 i&&b.2 i)->(aI a.1 :: hB G).set (1+i) (aB v)=aI a.1 :: hB (fun j=>if j<i+1 then a.2 j&&b.2 j else a.2 j):=fun v hv=>by
   rw[s1];congr 2;funext j;rw[<-hG,hv];by_cases h1:j=i
   .subst h1;simp
   .by_cases h2:j<i
    .simp [h1,h2,show j<i+1 by omega]
    .simp [h1,h2,show ¬j<i+1 by omega]
  have C:=d1 (aI a.1) G i l;have m2:=d0 b.2 i l;have a0:1<=64-i:=zOm;rw[T]at C;cases ha:a.2 i with
  |false =>
   rw[ha]at C g;have hn:=g false zSp;simp[go_sem,p,P,R,l,o,t,qw,C,hn,w1];exact aM ⟨zS1 p,zS1 J,zS1 I,zSi,zSi⟩
  |true =>
   rw[ha]at C g;have hn:=g (b.2 i) zSp;simp[go_sem,p,J,P,R,l,o,t,a0,qw,C,m2,hn,w1];exact aM ⟨zS1 p,zS1 J,zS1 I,zSi,zSi⟩
 .have a1:i=64:=by omega
  subst a1;simp[go_sem,p,I,P,R,qw,tk,pc];rw[if_pos (zb _)];simp[go_sem,I,qw,tk];have e:(aI a.1 :: hB fun j=>if j<64 then a.2 j&&b.2 j else a.2 j)=cRS (intS a b):=by
   exact congrArg (aI a.1 :: ·) (u7 fun j hj=>if_pos hj)
  rw[e];exact .hf _ (yS _)
def trS(a:RS):RS:=(2,fun j=>decide (j<16)&&a.2 (j % 4*4+j / 4))
theorem qd4(a):qj qg 285 [eRS a] (eRS (trS a)):=by
 refine qSU call285 func285 rfl ?_;refine⟨zb _,?_⟩;refine aP 16 (fun i U=>U.tm 1 = .ip (cRS a)/\U.tm 2 = .ptr 0 0/\U.tm 3 = .ptr 1 0/\U.tm 4=aI i/\U.mu=[.arr (aI 0 :: hB fun _=>false),.arr (aI 2 :: hB (fun j=>decide (j<16/\j % 4*4+j / 4<i)&&a.2 (j % 4*4+j / 4)))]) ?_ ?_
 .exact ⟨zSi,zSi,zSi,zSi,by simp[go_sem];first|rfl|exact⟨rfl,rfl⟩⟩
 rintro i U hi ⟨e1,o,p,e4,t⟩;by_cases C:i<16
 .have l:(i:Int)<16:=by omega
  have w1:=zWk i;obtain⟨q,hq⟩:∃ q:Nat,q=i % 4*4+i / 4:=⟨_,rfl⟩;have a0:q<16:=zOm;have w2:qo.wrap ((i:Int).tmod 4)=((i % 4:Nat):Int):=by
   rw[vJ zOm];rw[zWr];omega
  have w3:qo.wrap (qo.wrap ((i:Int).tmod 4*4)+qo.wrap ((i:Int) / 4))=(q:Int):=by
   have x1:qo.wrap ((i:Int) % 4*4)=(i:Int) % 4*4:=zWr;have x2:qo.wrap ((i:Int) / 4)=(i:Int) / 4:=zWr;rw[vJ zOm,x1,x2,zWr];omega
  generalize hG:(fun j=>decide (j<16/\j % 4*4+j / 4<i)&&a.2 (j % 4*4+j / 4))=G at *
  have g:(aI 2 :: hB G).set (1+q) (aB (a.2 i))=aI 2 :: hB (fun j=>decide (j<16/\j % 4*4+j / 4<i+1)&&a.2 (j % 4*4+j / 4)):=by
   rw[s1];refine congrArg (aI 2 :: ·) (u7 fun j hj=>?_);rw[<-hG];by_cases I:j=q
   .have h2:j % 4*4+j / 4=i:=by omega
    rw[if_pos I,h2,decide_eq_true ⟨zOm,zOm⟩];rfl
   .have h2:¬(j<16/\j % 4*4+j / 4=i):=fun h=>I zOm
    rw[if_neg I];have h3:(j<16/\j % 4*4+j / 4<i+1)=(j<16/\j % 4*4+j / 4<i):=propext ⟨fun h=>⟨h.1,zOm⟩,fun h=>⟨h.1,zOm⟩⟩;rw[show decide (j<16/\j % 4*4+j / 4<i+1)=decide (j<16/\j % 4*4+j / 4<i) from decide_eq_decide.2 (by rw[h3])]
  have m2:=d0 a.2 i zOm;have J:(i:Int)<64:=zOm;have P:1<=64-i:=zOm;simp[go_sem,e1,p,e4,t,C,l,J,P,m2,qw,w1,w3,show (q:Int)<64 by omega,show 1+q<=64 by omega,g];exact aM ⟨zS1 e1,zS1 o,zS1 p,zSi,zSi⟩
 .have R:i=16:=by omega
  subst R;have e:hB (fun j=>decide (j<16/\j % 4*4+j / 4<16)&&a.2 (j % 4*4+j / 4))=hB (trS a).2:=by
   refine u7 fun j hj=>?_
   rw[show decide (j<16/\j % 4*4+j / 4<16)=decide (j<16) from decide_eq_decide.2 ⟨fun h=>h.1,fun h=>⟨h,zOm⟩⟩];rfl
  rw[e]at t;have hT:eRS (trS a) = .agg (aI 2 :: hB (trS a).2):=rfl;rw[hT];generalize (trS a).2=T at *
  simp[go_sem,o,p,e4,t,qw,tk,pc];rw[if_pos (zb _)];simp[go_sem,o,qw,tk];exact .hf _ (yS (2,T))
def Ql(a b:RS)(j:Nat):Bool:=a.2 (j / szA b.1)&&b.2 (j % szA b.1)
def kG(a b:RS):RS:=(a.1+b.1,fun j=>decide (j<szA a.1*szA b.1)&&Ql a b j)
theorem qpW(f:Nat->Bool)(p v)(i:v=f p):∀ j,(if j=p then v else decide (j<p)&&f j)=(decide (j<p+1)&&f j):=fun j=>by
 by_cases g:j=p
 .subst g;simp[i]
 .rw [if_neg g,show decide (j<p+1)=decide (j<p) from decide_eq_decide.2 zOm]
theorem qd5(a b)(ha:0<=a.1/\a.1<=1000)(hb:0<=b.1/\b.1<=1000):qj qg 284 [eRS a,eRS b] (eRS (kG a b)):=by
 refine qSV call284 func284 rfl ?_;have w0:qo.wrap (a.1+b.1)=a.1+b.1:=zWr;have ag:=Vv a.1;have ah:=Vv b.1;have ca:=Wf a.1;have cb:=Wf b.1;have hf:∀ j,Ql a b j=(a.2 (j / szA b.1)&&b.2 (j % szA b.1)):=fun _=>rfl
 simp[go_sem,qw];refine⟨zb _,zb _,?_⟩;simp[go_sem,w0];refine t8 cb (.zs .nil) ?_;generalize hE:kG a b=E;have aa:E=(a.1+b.1,fun j=>decide (j<szA a.1*szA b.1)&&Ql a b j):=hE.symm;clear hE;generalize Ql a b=F at *
 generalize szA a.1=sa at *
 generalize szA b.1=n at *
 simp[go_sem];refine aP sa (fun i U=>U.tm 2 = .ip (cRS a)/\U.tm 3 = .ip (cRS b)/\U.tm 4 = .ptr 0 0/\U.tm 5 = .ptr 1 0/\U.tm 6=aI n/\U.tm 7=aI i/\U.mu=[.arr (aI 0 :: hB fun _=>false),.arr (aI (a.1+b.1) :: hB (fun j=>decide (j<i*n)&&F j))]) ?_ ?_
 .exact ⟨zSi,zSi,zSi,zSi,zSi,zSi,by simp[go_sem];first|rfl|exact⟨rfl,rfl⟩⟩
 rintro i U hi ⟨l,C,J,P,o,e7,R⟩;simp[go_sem,l,e7,R];refine t8 ca (.zs .nil) ?_;by_cases a7:i<sa
 .have w1:=zWk i
  simp[go_sem,a7];refine aP n (fun k U=>U.tm 2 = .ip (cRS a)/\U.tm 3 = .ip (cRS b)/\U.tm 4 = .ptr 0 0/\U.tm 5 = .ptr 1 0/\U.tm 6=aI n/\U.tm 7=aI i/\U.tm 8=aI k/\U.mu=[.arr (aI 0 :: hB fun _=>false),.arr (aI (a.1+b.1) :: hB (fun j=>decide (j<i*n+k)&&F j))]) ?_ ?_
  .exact ⟨zS1 l,zS1 C,zS1 J,zS1 P,zS1 o,by simp[go_sem,e7],zSi,zSi⟩
  clear l C J P o e7 R;rintro k U hk ⟨l,C,J,P,o,e7,e8,R⟩;by_cases t:k<n
  .have w2:=zWk k
   obtain⟨p,hp⟩:∃ p:Nat,p=i*n+k:=⟨_,rfl⟩;have a8:((i:Int)*n+k)=(p:Int):=by rw[hp];push_cast;rfl
   have ai:i*n<=63*64:=Nat.mul_le_mul zOm zOm;have w3:qo.wrap ((i:Int)*n)=(i:Int)*n:=by
    have:((i*n:Nat):Int)=(i:Int)*n:=by push_cast;rfl
    rw[<-this];exact zWr
   have w4:qo.wrap (p:Int)=(p:Int):=zWr;have a3:F p=(a.2 i&&b.2 k):=by
    rw[hf,hp,Nat.add_comm,Nat.add_mul_div_right _ _ zOm,Nat.add_mul_mod_self_right,Nat.div_eq_of_lt t,Nat.mod_eq_of_lt t,yJ]
   have m1:=d0 a.2 i zOm;have m2:=d0 b.2 k zOm;have a0:1<=64-i:=zOm;have a4:1<=64-k:=zOm;have a1:(i:Int)<64:=zOm;have a5:(k:Int)<64:=zOm;have hq:∀ x:AV,(x :: hB (fun j=>decide (j<p)&&F j)).set (1+p) (aB true)=x :: hB (fun j=>if j=p then true else decide (j<p)&&F j):=fun x=>s1 x _ p true
   rw[<-hp]at R;have ab:F p=true->(fun j=>if j=p then true else decide (j<p)&&F j)=(fun j=>decide (j<p+1)&&F j):=fun h=>funext (qpW F p true h.symm)
   have ad:F p=true->∀ x:AV,(x :: hB (fun j=>decide (j<p)&&F j)).set (1+p) (AV.sc (Value.bool true))=x :: hB (fun j=>decide (j<p+1)&&F j):=fun h x=>by rw[<-ab h];exact hq x
   have a6:(F p=false\/64<=p)->hB (fun j=>decide (j<p)&&F j)=hB (fun j=>decide (j<p+1)&&F j):=fun h=>u7 fun j hj=>by
    by_cases h1:j=p
    .rcases h with h|h
     .rw [h1,h];simp
     .omega
    .rw [show decide (j<p+1)=decide (j<p) from decide_eq_decide.2 zOm]
   have done:∀ g:St,g.tm 2 = .ip (cRS a)->g.tm 3 = .ip (cRS b)->g.tm 4 = .ptr 0 0->g.tm 5 = .ptr 1 0->g.tm 6=aI n->g.tm 7=aI i->g.tm 8=aI (k+1:Nat)->g.mu=[.arr (aI 0 :: hB fun _=>false),.arr (aI (a.1+b.1) :: hB (fun j=>decide (j<p+1)&&F j))]->Keep (fun U=>U.tm 2 = .ip (cRS a)/\U.tm 3 = .ip (cRS b)/\U.tm 4 = .ptr 0 0/\U.tm 5 = .ptr 1 0/\U.tm 6=aI n/\U.tm 7=aI i/\U.tm 8=aI (k+1:Nat)/\U.mu=[.arr (aI 0 :: hB fun _=>false),.arr (aI (a.1+b.1) :: hB (fun j=>decide (j<i*n+(k+1))&&F j))]) .mk g:=
    fun g b1 b2 b3 b4 b5 b6 b7 b8=>aM ⟨b1,b2,b3,b4,b5,b6,b7,by rw[b8,hp];rfl⟩
   cases I:a.2 i with
   |false =>
    rw[I]at m1;simp[go_sem,l,o,e7,e8,R,t,qw,m1,a0,a1,w2];exact done _ (zS1 l) (zS1 C) (zS1 J) (zS1 P) (zS1 o) (by simp[go_sem,e7]) zSi (by simp[go_sem,a6 (.inl (by rw[a3,I];rfl))])
   |true =>
    rw[I]at m1;cases a2:b.2 k with
    |false =>
     rw[a2]at m2;simp[go_sem,l,C,o,e7,e8,R,t,qw,m1,m2,a0,a4,a1,a5,w2];exact done _ (zS1 l) (zS1 C) (zS1 J) (zS1 P) (zS1 o) (by simp[go_sem,e7]) zSi (by simp[go_sem,a6 (.inl (by rw[a3,I,a2];rfl))])
    |true =>
     rw[a2]at m2;by_cases a9:(p:Int)<64
     .simp [go_sem,l,C,P,o,e7,e8,R,t,qw,m1,m2,a0,a4,a1,a5,w2,w3,a8,w4,a9,show 1+p<=64 by omega,ad (by rw[a3,I,a2];rfl)]
      exact done _ (zS1 l) (zS1 C) (zS1 J) (zS1 P) (zS1 o) (by simp[go_sem,e7]) zSi zSi
     .simp [go_sem,l,C,o,e7,e8,R,t,qw,m1,m2,a0,a4,a1,a5,w2,w3,a8,w4,a9]
      exact done _ (zS1 l) (zS1 C) (zS1 J) (zS1 P) (zS1 o) (by simp[go_sem,e7]) zSi (by simp[go_sem,a6 (.inr zOm)])
  .have ae:k=n:=by omega
   subst ae;rw[show i*k+k=(i+1)*k by rw[Nat.add_mul,Nat.one_mul]]at R;simp[go_sem,o,e7,e8,R,w1];exact⟨a7,aM ⟨zS1 l,zS1 C,zS1 J,zS1 P,zS1 o,zSi,zSi⟩⟩
 .have af:i=sa:=by omega
  subst af;rw[aa];generalize (fun j=>decide (j<i*n)&&F j)=T at *
  simp[go_sem,J,P,qw,tk,pc];rw[if_pos (zb _)];simp[go_sem,J,qw,tk];exact .hf _ (yS (_,T))
def rowJ(a b:RS)(i g j:Nat):Bool:=(qu g).any fun k=>decide (i / 4*(szA b.1 / 4)+k % (szA b.1 / 4)=j)&&(decide (i % 4=k / (szA b.1 / 4))&&(a.2 i&&b.2 k))
def Ya(a b:RS):RS:=(a.1+b.1-2,fun j=>(qu (szA a.1)).any fun i=>rowJ a b i (szA b.1) j)
theorem qpX(a b i k j):rowJ a b i (k+1) j=(rowJ a b i k j||(decide (i / 4*(szA b.1 / 4)+k % (szA b.1 / 4)=j)&&(decide (i % 4=k / (szA b.1 / 4))&&(a.2 i&&b.2 k)))):=by
 unfold rowJ;rw[List.range_succ,List.any_append];simp
theorem qpY{k}(h:1<=k):4<=szA k:=by unfold szA;split<;>(try split)<;>(try split)<;>omega
theorem uU(a b)(ha:0<=a.1/\a.1<=1000)(hb:1<=b.1/\b.1<=1000):qj qg 283 [eRS a,eRS b] (eRS (Ya a b)):=by
 refine qSV call283 func283 rfl ?_;have w0:qo.wrap (a.1+b.1)=a.1+b.1:=zWr;have ab:qo.wrap (a.1+b.1-2)=a.1+b.1-2:=zWr;have aj:=Vv a.1;have ak:=Vv b.1;have al:=qpY hb.1;have ca:=Wf a.1;have cb:=Wf b.1;have hR:∀ i k j,rowJ a b i (k+1) j=(rowJ a b i k j||(decide (i / 4*(szA b.1 / 4)+k % (szA b.1 / 4)=j)&&(decide (i % 4=k / (szA b.1 / 4))&&(a.2 i&&b.2 k)))):=qpX a b;have ad:∀ i j,rowJ a b i 0 j=false:=fun i j=>rfl
 simp[go_sem,qw];refine⟨zb _,zb _,?_⟩;simp[go_sem,w0,ab];refine t8 cb (.zs .nil) ?_;generalize hE:Ya a b=E;have ae:E=(a.1+b.1-2,fun j=>(qu (szA a.1)).any fun i=>rowJ a b i (szA b.1) j):=hE.symm;clear hE;generalize rowJ a b=F at *
 generalize szA a.1=sa at *
 generalize szA b.1=sb at *
 obtain⟨n,hn⟩:∃ n:Nat,n=sb / 4:=⟨_,rfl⟩;have an:1<=n/\n<=16:=zOm;have wn:qo.wrap ((sb:Int) / 4)=(n:Int):=by rw[zWr];omega
 rw[<-hn]at hR;simp[go_sem,wn];refine aP sa (fun i U=>U.tm 2 = .ip (cRS a)/\U.tm 3 = .ip (cRS b)/\U.tm 4 = .ptr 0 0/\U.tm 5 = .ptr 1 0/\U.tm 6=aI n/\U.tm 7=aI i/\U.mu=[.arr (aI 0 :: hB fun _=>false),.arr (aI (a.1+b.1-2) :: hB (fun j=>(qu i).any fun i=>F i sb j))]) ?_ ?_
 .exact ⟨zSi,zSi,zSi,zSi,zSi,zSi,by simp[go_sem];first|rfl|exact⟨rfl,rfl⟩⟩
 rintro i U hi ⟨l,o,C,I,t,e7,hm⟩;simp[go_sem,l,e7,hm];refine t8 ca (.zs .nil) ?_;by_cases a9:i<sa
 .have w1:=zWk i
  generalize hP:(fun j=>(qu i).any fun i=>F i sb j)=P at *
  simp[go_sem,a9];refine aP sb (fun k U=>U.tm 2 = .ip (cRS a)/\U.tm 3 = .ip (cRS b)/\U.tm 4 = .ptr 0 0/\U.tm 5 = .ptr 1 0/\U.tm 6=aI n/\U.tm 7=aI i/\U.tm 8=aI k/\U.mu=[.arr (aI 0 :: hB fun _=>false),.arr (aI (a.1+b.1-2) :: hB (fun j=>P j||F i k j))]) ?_ ?_
  .exact ⟨zS1 l,zS1 o,zS1 C,zS1 I,zS1 t,by simp[go_sem,e7],zSi,zS1 ad⟩
  clear l o C I t e7 hm;rintro k U hk ⟨l,o,C,I,t,e7,e8,hm⟩;simp[go_sem,o,e8,hm];refine t8 cb (.zs .nil) ?_;by_cases J:k<sb
  .have w2:=zWk k
   obtain⟨p,hp⟩:∃ p:Nat,p=i / 4*n+k % n:=⟨_,rfl⟩;have ao:k % n<n:=Nat.mod_lt _ zOm;have aq:i / 4*n<=15*16:=Nat.mul_le_mul zOm zOm;have y1:((i / 4:Nat):Int)=(i:Int) / 4:=zOm;have y2:((i / 4*n:Nat):Int)=(i:Int) / 4*n:=by rw[<-y1];push_cast;rfl
   have y3:((k % n:Nat):Int)=(k:Int) % n:=rfl;have y4:((k / n:Nat):Int)=(k:Int) / n:=rfl;have af:k / n<=64:=zQ (Nat.div_le_self k n) zOm;have x1:qo.wrap ((i:Int) / 4)=(i:Int) / 4:=zWr;have x2:qo.wrap ((i:Int) / 4*n)=(i:Int) / 4*n:=by rw[<-y2];exact zWr
   have x4:qo.wrap ((i:Int) / 4*n+(k:Int) % n)=(p:Int):=by rw[<-y2,<-y3,zWr,hp];push_cast;rfl
   have a8:qo.wrap ((i:Int) / 4*n+(k:Int).tmod n)=(p:Int):=by rw[vJ zOm];exact x4
   have x5:qo.wrap ((k:Int) / n)=(k:Int) / n:=by
    rw[<-y4];clear y4;generalize k / n=c at af⊢;exact zWr
   have R:¬n=0:=zOm;have m1:=d0 a.2 i zOm;have m2:=d0 b.2 k zOm;have a0:1<=64-i:=zOm;have a2:1<=64-k:=zOm;have a1:(i:Int)<64:=zOm;have a3:(k:Int)<64:=zOm;have a4:((decide (i % 4=k / n)&&(a.2 i&&b.2 k))=false\/64<=p)->hB (fun j=>P j||F i k j)=hB (fun j=>P j||F i (k+1) j):=fun h=>u7 fun j hj=>by
    rw[hR,<-hp];rcases h with h|h
    .rw [h,Bool.and_false,Bool.or_false]
    .rw [decide_eq_false zOm,Bool.false_and,Bool.or_false]
   have ag:(decide (i % 4=k / n)&&(a.2 i&&b.2 k))=true->∀ x:AV,(x :: hB (fun j=>P j||F i k j)).set (1+p) (AV.sc (Value.bool true))=x :: hB (fun j=>P j||F i (k+1) j):=fun h x=>by
    refine(s1 x _ p true).trans (congrArg (x :: ·) (u7 fun j hj=>?_));rw[hR,<-hp,h,Bool.and_true];by_cases h1:j=p
    .rw [if_pos h1,h1];simp
    .rw [if_neg h1,decide_eq_false (fun e=>h1 e.symm),Bool.or_false]
   have done:∀ g:St,g.tm 2 = .ip (cRS a)->g.tm 3 = .ip (cRS b)->g.tm 4 = .ptr 0 0->g.tm 5 = .ptr 1 0->g.tm 6=aI n->g.tm 7=aI i->g.tm 8=aI (k+1:Nat)->g.mu=[.arr (aI 0 :: hB fun _=>false),.arr (aI (a.1+b.1-2) :: hB (fun j=>P j||F i (k+1) j))]->Keep (fun U=>U.tm 2 = .ip (cRS a)/\U.tm 3 = .ip (cRS b)/\U.tm 4 = .ptr 0 0/\U.tm 5 = .ptr 1 0/\U.tm 6=aI n/\U.tm 7=aI i/\U.tm 8=aI (k+1:Nat)/\U.mu=[.arr (aI 0 :: hB fun _=>false),.arr (aI (a.1+b.1-2) :: hB (fun j=>P j||F i (k+1) j))]) .mk g:=
    fun g b1 b2 b3 b4 b5 b6 b7 b8=>aM ⟨b1,b2,b3,b4,b5,b6,b7,b8⟩
   cases a5:a.2 i with
   |false =>
    rw[a5]at m1;simp[go_sem,l,t,e7,e8,J,qw,x1,x2,R,m1,a0,a1,w2];exact done _ (zS1 l) (zS1 o) (zS1 C) (zS1 I) (zS1 t) (by simp[go_sem,e7]) zSi (by simp[go_sem,a4 (.inl (by rw[a5];simp))])
   |true =>
    rw[a5]at m1;cases a6:b.2 k with
    |false =>
     rw[a6]at m2;simp[go_sem,l,o,t,e7,e8,J,qw,x1,x2,R,m1,m2,a0,a1,a2,a3,w2];exact done _ (zS1 l) (zS1 o) (zS1 C) (zS1 I) (zS1 t) (by simp[go_sem,e7]) zSi (by simp[go_sem,a4 (.inl (by rw[a6];simp))])
    |true =>
     rw[a6]at m2;by_cases hq:i % 4=k / n
     .have a7:(i:Int).tmod 4=(k:Int) / n:=by rw[vJ zOm,<-y4,<-hq];rfl
      by_cases aa:(p:Int)<64
      .simp [go_sem,l,o,I,t,e7,e8,J,qw,x1,x2,a8,x5,R,m1,m2,a0,a1,a2,a3,w2,a7,aa,show 1+p<=64 by omega,ag (by rw[decide_eq_true hq,a5,a6];rfl)]
       exact done _ (zS1 l) (zS1 o) (zS1 C) (zS1 I) (zS1 t) (by simp[go_sem,e7]) zSi zSi
      .simp [go_sem,l,o,t,e7,e8,J,qw,x1,x2,a8,x5,R,m1,m2,a0,a1,a2,a3,w2,a7,aa]
       exact done _ (zS1 l) (zS1 o) (zS1 C) (zS1 I) (zS1 t) (by simp[go_sem,e7]) zSi (by simp[go_sem,a4 (.inr zOm)])
     .have a7:¬(i:Int).tmod 4=(k:Int) / n:=fun e=>hq (by rw[vJ zOm,<-y4]at e;exact Int.ofNat.inj e)
      simp[go_sem,l,o,t,e7,e8,J,qw,x1,x2,a8,x5,R,m1,m2,a0,a1,a2,a3,w2,a7];exact done _ (zS1 l) (zS1 o) (zS1 C) (zS1 I) (zS1 t) (by simp[go_sem,e7]) zSi (by simp[go_sem,a4 (.inl (by rw[decide_eq_false hq];rfl))])
  .have ah:k=sb:=by omega
   subst ah;simp[go_sem,e7,w1];exact⟨a9,aM ⟨zS1 l,zS1 o,zS1 C,zS1 I,zS1 t,zSi,by simp[go_sem];rw[<-hP]⟩⟩
 .have ai:i=sa:=by omega
  subst ai;rw[ae];generalize (fun j=>(qu i).any fun i=>F i sb j)=T at *
  simp[go_sem,C,I,qw,tk,pc];rw[if_pos (zb _)];simp[go_sem,C,qw,tk];exact .hf _ (yS (_,T))
end QE
namespace QF
open Y2 Y3 P1 P2 QD QE
section
variable {p q:Int}{a b:Kd}{l:List Int}{m ns:Nat}
def dig(k:Int)(j:Nat):List Int:=if k=0 then [] else if k=1 then [(j:Int)] else if k=2 then [((j / 4:Nat):Int),((j % 4:Nat):Int)] else [((j / 16:Nat):Int),((j / 4 % 4:Nat):Int),((j % 4:Nat):Int)]
theorem Yb{k}(h:0<=k/\k<=3)(j):((dig k j).length:Int)=k:=by
 grind [dig]
theorem szA1:szA 1=4:=rfl
theorem szA2:szA 2=16:=rfl
theorem szA3:szA 3=64:=rfl
theorem Vw(h:0<=p/\p<=3):p=0\/p=1\/p=2\/p=3:=by omega
theorem qd6(g:0<=p)(i:0<=q)(h:p+q<=3){j}(l:j<szA (p+q)):j / szA q<szA p/\j % szA q<szA q/\dig (p+q) j=dig p (j / szA q)++dig q (j % szA q):=by
 rcases Vw (p:=p) ⟨g,zOm⟩ with rfl|rfl|rfl|rfl<;>rcases Vw (p:=q) ⟨i,zOm⟩ with rfl|rfl|rfl|rfl<;>first | (exfalso;omega)|skip
 all_goals simp[dig,szA]at l⊢
 all_goals omega
theorem kH(g:0<=p)(j:0<=q)(h:p+q<=3){i k}(l:i<szA p)(o:k<szA q):i*szA q+k<szA (p+q)/\dig (p+q) (i*szA q+k)=dig p i++dig q k:=by
 rcases Vw (p:=p) ⟨g,zOm⟩ with rfl|rfl|rfl|rfl<;>rcases Vw (p:=q) ⟨j,zOm⟩ with rfl|rfl|rfl|rfl<;>first | (exfalso;omega)|skip
 all_goals simp[dig,szA]at l o⊢
 all_goals omega
theorem kI(h:0<=p/\p<=3){i j}(g:i<szA p)(l:j<szA p)(e:dig p i=dig p j):i=j:=by
 rcases Vw h with rfl|rfl|rfl|rfl
 all_goals grind [dig,szA]
 all_goals omega
theorem qd7(h:1<=p/\p<=3){l}(j:(l.length:Int)=p)(g:∀ x,x∈l->0<=x/\x<4):∃ i,i<szA p/\l=dig p i:=by
 match l,j,g with
 | [],j,_=>simp at j;omega
 | [a],j,g =>
  obtain rfl:p=1:=by grind
  have:=g a zSp;exact⟨a.toNat,by rw[szA1];omega,by simp[dig];omega⟩
 | [a,b],j,g =>
  obtain rfl:p=2:=by grind
  have:=g a zSp;have:=g b zSp;exact⟨(a*4+b).toNat,by rw[szA2];omega,by simp[dig];omega⟩
 | [a,b,c],j,g =>
  obtain rfl:p=3:=by grind
  have:=g a zSp;have:=g b zSp;have:=g c zSp;exact⟨(a*16+b*4+c).toNat,by rw[szA3];omega,by simp[dig];omega⟩
 |a :: b :: c :: d :: l,j,_=>simp at j;omega
theorem kJ{g}(h:l.length=g.length)(i:l.length<=3)(e:pad l=pad g):l=g:=by
 have j:=ZY i l.length (qn _);have o:=ZY (l:=g) zOm g.length (qn _)
 grind
theorem Jp{k}(h:okKd ns k)(g:ns<=4){t:Tp}(j:t∈k.ts):∃ i,i<szA k.ar/\t=pad (dig k.ar i):=by
 obtain⟨l,rfl,o,p⟩:=h.ts t j;obtain⟨i,C,e⟩:=qd7 h.ar o fun x I=>by grind
 grind
def qt(k:Kd):RS:=(k.ar,fun j=>decide (j<szA k.ar/\pad (dig k.ar j)∈k.ts))
theorem y7(k j):(qt k).2 j=true↔j<szA k.ar/\pad (dig k.ar j)∈k.ts:=decide_eq_true_iff
theorem Qy{a b}(g:a.1=b.1)(i:∀ j,j<64->a.2 j=b.2 j):eRS a=eRS b:=by
 simp only[eRS,cRS,g,u7 i]
theorem Vx(h:a.ar=b.ar):eRS (uniS (qt a) (qt b))=eRS (qt (kSum a b)):=by
 refine Qy rfl fun j g=>?_
 rw[uc,y7];show ((qt a).2 j||(qt b).2 j)=true↔j<szA a.ar/\pad (dig a.ar j)∈uni (uni [] a.ts) b.ts;rw[Bool.or_eq_true,y7,y7,<-h,um,um]
 grind
theorem qpZ(h:a.ar=b.ar):eRS (intS (qt a) (qt b))=eRS (qt (JY a b)):=by
 refine Qy rfl fun j g=>?_
 rw[uc,y7];show ((qt a).2 j&&(qt b).2 j)=true↔j<szA a.ar/\pad (dig a.ar j)∈a.ts.filter fun t=>decide (t∈b.ts)
 rw[qD,y7,y7,<-h,List.mem_filter,decide_eq_true_eq]
 grind
theorem Uw{n a b t}:t∈ZR n m a b↔∃ x y,x∈a/\y∈b/\conc x n y m 0=t:=by
 unfold ZR;rw[um];simp only[qO,false_or,qp,Prod.exists,Yx]
 grind
theorem Vd{g n}(h:l.length=n)(i:g.length=m)(j:n<=3)(o:m<=3):conc (pad l) n (pad g) m 0=pad (l++g):=by
 unfold conc;rw[Nat.sub_zero,List.drop_zero,ZY zOm n zOm,ZY zOm m zOm,<-h,<-i,za,za]
theorem qp0(P:okKd ns a)(R:okKd ns b)(l:ns<=4)(T:a.ar+b.ar<=3):eRS (kG (qt a) (qt b))=eRS (qt (Zi a b)):=by
 have a0:=P.ar;have a1:=R.ar;have la:=fun i=>Yb (k:=a.ar) zOm i
 have lb:=fun i=>Yb (k:=b.ar) zOm i
 have g:=fun i=>Yb (k:=a.ar+b.ar) zOm i
 refine Qy rfl fun j hj=>?_
 rw[uc,y7];show (decide (j<szA a.ar*szA b.ar)&&((qt a).2 (j / szA b.ar)&&(qt b).2 (j % szA b.ar)))=true↔j<szA (a.ar+b.ar)/\pad (dig (a.ar+b.ar) j)∈ZR a.ar.toNat b.ar.toNat a.ts b.ts;rw[qD,qD,y7,y7,Uw,decide_eq_true_eq];constructor
 .rintro ⟨_,⟨t,h2⟩,h4,h5⟩
  have C:=kH (p:=a.ar) (q:=b.ar) zOm zOm T t h4
  grind [szA,Nat.div_add_mod',Vd]
 .rintro ⟨t,x,y,U,hy,e⟩
  obtain⟨i,I,rfl⟩:=Jp P l U;obtain⟨k,o,rfl⟩:=Jp R l hy;rw[Vd (zW1 (la i)) (zW1 (lb k)) zOm zOm]at e;have C:=kH (p:=a.ar) (q:=b.ar) zOm zOm T I o;rw[<-C.2]at e;have e2:=kJ (zW2 (g (i*szA b.ar+k)) (g j)) (zW1 (g (i*szA b.ar+k))) e;have J:=kI zOm C.1 t e2;have a2:=Vv b.ar;have d1:j / szA b.ar=i:=by rw[<-J,Nat.add_comm,Nat.add_mul_div_right _ _ zOm,Nat.div_eq_of_lt o,yJ]
  have d2:j % szA b.ar=k:=by rw[<-J,Nat.add_comm,Nat.add_mul_mod_self_right,Nat.mod_eq_of_lt o]
  rw[d1,d2];refine⟨?_,⟨I,U⟩,o,hy⟩;rw[<-J]
  calc i*szA b.ar+k<i*szA b.ar+szA b.ar:=by omega
   _=(i+1)*szA b.ar:=by rw[Nat.add_mul,Nat.one_mul]
   _<=szA a.ar*szA b.ar:=Nat.mul_le_mul_right _ I
theorem Zm{n a b t}:t∈uT n m a b↔∃ x y,x∈a/\y∈b/\x.getD (n-1) 0=y.getD 0 0/\conc x n y m 1=t:=by
 unfold uT;rw[um];simp only[qO,false_or,List.mem_filterMap,Prod.exists,Yx];constructor
 .rintro ⟨x,y,⟨i,j⟩,g⟩
  split at g
  .rename_i h;cases g;exact⟨x,y,i,j,h,rfl⟩
  .cases g
 .rintro ⟨x,y,i,j,g,l⟩;exact⟨x,y,⟨i,j⟩,by rw[if_pos g,l]⟩
theorem qp1{u v e f n}(h:u.length+1=n)(g:v.length+1=m)(i:n<=3)(j:m<=3):conc (pad (u++[e])) n (pad ([f]++v)) m 1=pad (u++v):=by
 unfold conc;rw[ZY zSo (n-1) zSo,ZY zSo m zSo,List.take_append_of_le_length zOm,zU zOm,zU zSo];rfl
theorem qd8{k}(h:k<3):(pad l).getD k 0=l.getD k 0:=by
 match k,h with
 | 0,_=>rfl
 | 1,_=>rfl
 | 2,_=>rfl
theorem qp2(g:0<=p/\p<=2){i}(j:i<szA (p+1)):i / 4<szA p/\dig (p+1) i=dig p (i / 4)++[((i % 4:Nat):Int)]:=by
 have:=qd6 (p:=p) (q:=1) g.1 zOm zOm j;rw[szA1]at this;exact⟨this.1,this.2.2⟩
theorem qp3(g:0<=q/\q<=2){k}(i:k<szA (1+q)):k % szA q<szA q/\dig (1+q) k=[((k / szA q:Nat):Int)]++dig q (k % szA q):=by
 have:=qd6 (p:=1) (q:=q) zOm g.1 zOm i;exact⟨this.2.1,this.2.2⟩
theorem qp4(g:0<=q/\q<=2):szA (q+1) / 4=szA q/\szA (q+1)=4*szA q:=by
 rcases (show q=0\/q=1\/q=2 by omega) with rfl|rfl|rfl<;>exact⟨rfl,rfl⟩
theorem qd9(ha:okKd ns a)(hb:okKd ns b)(t:ns<=4)(h3:1<=a.ar+b.ar-2/\a.ar+b.ar-2<=3):eRS (Ya (qt a) (qt b))=eRS (qt (zM a b)):=by
 have a0:=ha.ar;have a3:=hb.ar;obtain⟨p,hp⟩:∃ p,p=a.ar-1:=⟨_,rfl⟩;obtain⟨q,hq⟩:∃ q,q=b.ar-1:=⟨_,rfl⟩;have ea:a.ar=p+1:=zOm;have eb:b.ar=1+q:=zOm;have C:b.ar=q+1:=zOm;have I:a.ar+b.ar-2=p+q:=zOm;have P:=qp4 (q:=q) zOm;have hn:szA b.ar / 4=szA q:=by rw[C];exact P.1
 have lp:=fun i=>Yb (k:=p) zOm i
 have lq:=fun i=>Yb (k:=q) zOm i
 have o:=fun i=>Yb (k:=p+q) zOm i
 have A:∀ i,i<szA a.ar->i / 4<szA p/\dig a.ar i=dig p (i / 4)++[((i % 4:Nat):Int)]:=fun i g=>by rw[ea]at g⊢;exact qp2 zOm g
 have B:∀ k,k<szA b.ar->k % szA q<szA q/\dig b.ar k=[((k / szA q:Nat):Int)]++dig q (k % szA q):=fun k l=>by rw[eb]at l⊢;exact qp3 zOm l
 have J:∀ i k,i<szA a.ar->k<szA b.ar->i / 4*szA q+k % szA q<szA (p+q)/\(pad (dig a.ar i)).getD (a.ar.toNat-1) 0=((i % 4:Nat):Int)/\(pad (dig b.ar k)).getD 0 0=((k / szA q:Nat):Int)/\conc (pad (dig a.ar i)) a.ar.toNat (pad (dig b.ar k)) b.ar.toNat 1=pad (dig (p+q) (i / 4*szA q+k % szA q)):=fun i k g l=>by
  obtain⟨a1,a2⟩:=A i g;obtain⟨b1,b2⟩:=B k l;have hm:=kH (p:=p) (q:=q) zOm zOm zOm a1 b1;have l1:=lp (i / 4);have l2:=lq (k % szA q);refine⟨hm.1,?_,?_,?_⟩
  .rw [qd8 zOm,a2,show a.ar.toNat-1=(dig p (i / 4)).length by omega];simp
  .rw [qd8 zOm,b2];rfl
  .rw [a2,b2,hm.2];exact qp1 zOm zOm zOm zOm
 refine Qy rfl fun j hj=>?_
 rw[uc,y7];show ((qu (szA a.ar)).any fun i=>(qu (szA b.ar)).any fun k=>decide (i / 4*(szA b.ar / 4)+k % (szA b.ar / 4)=j)&&(decide (i % 4=k / (szA b.ar / 4))&&((qt a).2 i&&(qt b).2 k)))=true↔j<szA (a.ar+b.ar-2)/\pad (dig (a.ar+b.ar-2) j)∈uT a.ar.toNat b.ar.toNat a.ts b.ts;rw[Zm,List.any_eq_true,hn,I];constructor
 .rintro ⟨i,g,h⟩
  obtain⟨k,l,h⟩:=List.any_eq_true.1 h;rw[zW]at g l;rw[qD,qD,qD,decide_eq_true_eq,decide_eq_true_eq,y7,y7]at h;obtain⟨rfl,R,⟨_,h4⟩,_,h5⟩:=h;obtain⟨T,U,j3,j4⟩:=J i k g l;exact⟨T,_,_,h4,h5,by rw[U,j3,R],j4⟩
 .rintro ⟨h1,x,y,hx,hy,R,e⟩
  obtain⟨i,g,rfl⟩:=Jp ha t hx;obtain⟨k,l,rfl⟩:=Jp hb t hy;obtain⟨T,U,j3,j4⟩:=J i k g l;rw[j4]at e;have e2:=kJ (zW2 (o (i / 4*szA q+k % szA q)) (o j)) (zW1 (o (i / 4*szA q+k % szA q))) e;have e3:=kI zOm T h1 e2;rw[U,j3]at R;refine⟨i,zW.2 g,List.any_eq_true.2 ⟨k,zW.2 l,?_⟩⟩;rw[qD,qD,qD,decide_eq_true_eq,decide_eq_true_eq,y7,y7];exact⟨e3,zOm,⟨g,hx⟩,l,hy⟩
theorem qp5(o:okKd ns a)(g:ns<=4)(p:a.ar=2):eRS (trS (qt a))=eRS (qt (kTr a)):=by
 refine Qy rfl fun j J=>?_
 rw[uc,y7];show (decide (j<16)&&(qt a).2 (j % 4*4+j / 4))=true↔j<16/\pad (dig 2 j)∈uni [] (a.ts.map fun t=>[t.getD 1 0,t.getD 0 0,0]);rw[qD,y7,um,decide_eq_true_eq,p,szA2];simp only[qO,false_or,qp];constructor
 .rintro ⟨l,P,C⟩
  refine⟨l,_,C,?_⟩
  grind [dig,pad]
 .rintro ⟨l,t,I,e⟩
  obtain⟨i,R,rfl⟩:=Jp o g I
  grind [szA2,dig,pad]
theorem kK(h:1<=l.length/\l.length<=3)(g:∀ x,x∈l->0<=x/\x<4):eRS (oneS l)=eRS (qt (kOf l)):=by
 refine Qy rfl fun j R=>?_
 obtain⟨i,o,e⟩:=qd7 (p:=(l.length:Int)) zOm rfl g;have t:atF 0 l=i:=by
  match l,h,g,o,e with
  | [x],_,g,o,e =>
   have:=g x zSp;simp[dig]at e;simp[atF,IntKind.wrap,IntKind.signed,IntKind.bits];omega
  | [x,y],_,g,o,e =>
   have:=g x zSp;have:=g y zSp;simp[dig]at e;simp[atF,IntKind.wrap,IntKind.signed,IntKind.bits];omega
  | [x,y,z],_,g,o,e =>
   have:=g x zSp;have:=g y zSp;have:=g z zSp;simp[dig]at e;simp[atF,IntKind.wrap,IntKind.signed,IntKind.bits];omega
 rw[uc,y7];show decide ((j:Int)=atF 0 l)=true↔j<szA (l.length:Int)/\pad (dig (l.length:Int) j)∈[pad l];rw[decide_eq_true_eq,t,qX];have I:=fun j=>Yb (k:=(l.length:Int)) zOm j
 constructor
 .intro J
  obtain rfl:j=i:=zOm
  grind
 .rintro ⟨J,P⟩
  have C:=kJ (zW1 (I j)) (zW1 (I j)) P;rw[e]at C;have:=kI (p:=(l.length:Int)) zOm J o (by rw[<-e]at C⊢;exact C);omega
end
end QF
namespace QG
open Y2 P1 P2 PB QE QF
section
variable {k:Kd}{ns:Nat}
def Vy(k:Kd):Kd:=kSum k (zM k k)
def itK:Nat->Kd->Kd
 | 0,k=>k
 |i+1,k=>Vy (itK i k)
theorem qp6(h:okKd ns k)(g:k.ar=2):okKd ns (Vy k)/\(Vy k).ar=2:=
 ⟨Vc h (Ve h h zOm zOm) (by grind [zM]),g⟩
theorem okIt(h:okKd ns k)(g:k.ar=2):∀ i,okKd ns (itK i k)/\(itK i k).ar=2
 | 0=>⟨h,g⟩
 |i+1=>qp6 (okIt h g i).1 (okIt h g i).2
abbrev Ed(k:Kd)(u v:Int):Prop:=[u,v,0]∈k.ts
theorem Wg(h:okKd ns k)(o:k.ar=2){t:Tp}(j:t∈k.ts):∃ u v,t=[u,v,0]/\(0<=u/\u<ns)/\(0<=v/\v<ns):=by
 obtain⟨l,rfl,g,i⟩:=h.ts t j
 match l,g,i with
 | [u,v],_,i=>exact⟨u,v,rfl,i u zSp,i v zSp⟩
 | [],g,_=>simp at g;omega
 | [_],g,_=>simp at g;omega
 |_ :: _ :: _ :: _,g,_=>simp at g;omega
theorem qeA(h:okKd ns k)(j:k.ar=2){u v}:[u,v,0]∈(zM k k).ts↔∃ w,Ed k u w/\Ed k w v:=by
 show [u,v,0]∈uT k.ar.toNat k.ar.toNat k.ts k.ts↔_;rw[QF.Zm,j];constructor
 .rintro ⟨x,y,l,o,g,i⟩
  obtain⟨a,b,rfl,_,_⟩:=Wg h j l;obtain⟨c,d,rfl,_,_⟩:=Wg h j o;have g:b=c:=g;have i:[a,d,0]=[u,v,0]:=i
  grind
 .rintro ⟨w,g,i⟩
  exact⟨[u,w,0],[w,v,0],g,i,rfl,rfl⟩
theorem kL(h:okKd ns k)(g:k.ar=2){u v}:Ed (Vy k) u v↔Ed k u v\/∃ w,Ed k u w/\Ed k w v:=by
 unfold Ed Vy;rw[Jo,qeA h g]
def Path(k:Kd)(n:Nat)(u v:Int):Prop:=∃ f:Nat->Int,f 0=u/\f n=v/\∀ i,i<n->Ed k (f i) (f (i+1))
theorem Path.one{u v}(h:Ed k u v):Path k 1 u v:=⟨fun i=>if i=0 then u else v,rfl,rfl,fun i g=>by
 grind⟩
theorem Path.comp{n m u w v}(h:Path k n u w)(o:Path k m w v):Path k (n+m) u v:=by
 obtain⟨f,f0,fn,hf⟩:=h;obtain⟨g,p,t,C⟩:=o;refine⟨fun i=>if i<n then f i else g (i-n),?_,?_,fun i I=>?_⟩
 .grind
 .grind
 .by_cases j:i+1<n
  .simp only[if_pos j,if_pos (show i<n by omega)];grind
  .by_cases l:i<n
   .have e:i+1=n:=by omega
    simp only[if_neg j,if_pos l]
    grind
   .simp only[if_neg j,if_neg l,show i+1-n=(i-n)+1 by omega]
    grind
theorem tP(h:okKd ns k)(P:k.ar=2)(g:ns<=4):∀ N n u v,n<=N->1<=n->Path k n u v->∃ m,1<=m/\m<=4/\Path k m u v
 | 0,n,u,v,R,T,_=>zOm
 | N+1,n,u,v,R,T,U=>by
  by_cases h4:n<=4
  .grind
  obtain⟨f,f0,fn,hf⟩:=U;have hr:∀ i,i<5->0<=f i/\f i<4:=fun i C=>by
   grind [Wg]
  obtain⟨i,j,a0,hj,e⟩:∃ i j,i<j/\j<5/\f i=f j:=by
   apply Classical.byContradiction;intro l;have o:((qu 5).map f).Nodup:=List.pairwise_map.2 (List.pairwise_lt_range.imp_of_mem fun {a b} ha hb p e=>l ⟨a,b,p,zW.1 hb,e⟩);have:=List.Nodup.length_le_of_subset o (l₂:=[0,1,2,3]) fun x I=>by
    obtain⟨i,C,rfl⟩:=qp.1 I;have:=hr i (zW.1 C);simp;omega
   simp at this
  refine tP h P g N (n-(j-i)) u v zOm zOm ⟨fun x=>if x<i then f x else f (x+(j-i)),?_,?_,fun x I=>?_⟩
  .grind
  .simp only[if_neg (show ¬n-(j-i)<i by omega),show n-(j-i)+(j-i)=n by omega,fn]
  .by_cases t:x+1<i
   .simp only[if_pos t,if_pos (show x<i by omega)];grind
   .by_cases J:x<i
    .have e1:x+1=i:=by omega
     simp only[if_neg t,if_pos J]
     grind
    .simp only[if_neg t,if_neg J,show x+1+(j-i)=(x+(j-i))+1 by omega]
     exact hf _ zOm
theorem Vz(h:okKd ns k)(g:k.ar=2):∀ i u v,Ed (itK i k) u v->∃ n,1<=n/\Path k n u v
 | 0,u,v,j=>⟨1,zOm,.one j⟩
 |i+1,u,v,j=>by
  rcases (kL (okIt h g i).1 (okIt h g i).2).1 j with j|⟨w,l,o⟩
  .exact Vz h g i u v j
  .obtain ⟨n,t,p⟩:=Vz h g i u w l
   obtain⟨m,C,q⟩:=Vz h g i w v o;exact⟨n+m,zOm,p.comp q⟩
theorem Jq(i):Sub (itK i k) (itK (i+1) k):=kh _ _
theorem qp7(h:okKd ns k)(g:k.ar=2){m u v}(p:1<=m)(t:m<=4)(o:Path k m u v):Ed (itK 4 k) u v:=by
 obtain⟨f,rfl,rfl,hf⟩:=o;have up:∀{u v},Ed (itK 2 k) u v->Ed (itK 4 k) u v:=fun i=>(Jq 3).2 _ ((Jq 2).2 _ i)
 have s1:∀{u w v},Ed (itK 0 k) u w->Ed (itK 0 k) w v->Ed (itK 1 k) u v:=fun a b=>(kL (okIt h g 0).1 (okIt h g 0).2).2 (.inr ⟨_,a,b⟩)
 have j:∀{u w v},Ed (itK 1 k) u w->Ed (itK 1 k) w v->Ed (itK 2 k) u v:=fun a b=>(kL (okIt h g 1).1 (okIt h g 1).2).2 (.inr ⟨_,a,b⟩)
 have l:∀{u v},Ed (itK 0 k) u v->Ed (itK 1 k) u v:=fun i=>(Jq 0).2 _ i
 refine up ?_;rcases (show m=1\/m=2\/m=3\/m=4 by omega) with rfl|rfl|rfl|rfl
 .exact (Jq 1).2 _ (l (hf 0 zOm))
 .exact (Jq 1).2 _ (s1 (hf 0 zOm) (hf 1 zOm))
 .exact j (s1 (hf 0 zOm) (hf 1 zOm)) (l (hf 2 zOm))
 .exact j (s1 (hf 0 zOm) (hf 1 zOm)) (s1 (hf 2 zOm) (hf 3 zOm))
theorem qp8(h:okKd ns k)(g:k.ar=2)(i:ns<=4):U8 (itK 4 k):=fun t l=>by
 have ok:=okIt h g 4;have j:=Ve ok.1 ok.1 (by rw[ok.2];omega) (by rw[ok.2];omega);obtain⟨u,v,rfl,_,_⟩:=Wg j (by grind [zM]) l;obtain⟨w,o,C⟩:=(qeA ok.1 ok.2).1 l;obtain⟨n,I,p⟩:=Vz h g 4 u w o;obtain⟨m,J,q⟩:=Vz h g 4 w v C;obtain⟨c,c1,c4,P⟩:=tP h g i (n+m) (n+m) u v (qn _) zOm (p.comp q)
 grind [qp7]
theorem VA{S}(g:U8 S){k}(h:Sub k S):∀ i,Sub (itK i k) S
 | 0=>h
 |i+1=>⟨(VA g h i).1,fun t j=>by
  rcases Jo.1 j with j|j
  .exact (VA g h i).2 t j
  .exact g t ((kg (VA g h i) (VA g h i)).2 t j)⟩
theorem qeB:∀ i,Sub k (itK i k)
 | 0 => .refl k
 |i+1=>(qeB i).trans (Jq i)
theorem qp9(h:okKd ns k)(l:k.ar=2)(g:ns<=4):eRS (qt (itK 4 k))=eRS (qt (kClo k)):=by
 have o:Sub (kClo k) (itK 4 k):=qc9 (qp8 h l g) 70 0 k (qeB 4);have i:Sub (itK 4 k) (kClo k):=VA (qdA g 70 0 k h l zOm (.inl rfl)) (qc8 70 0 k) 4;refine Qy i.1 fun j p=>?_
 rw[uc,y7,y7,i.1];exact⟨fun x=>⟨x.1,i.2 _ x.2⟩,fun x=>⟨x.1,o.2 _ x.2⟩⟩
end
end QG
namespace QH
open YF Y9 Y2 Y3 P1 P2 PB QD QE QF QG
theorem Uy{ns a}(h:okKd ns a)(J:a.ar=2)(g:ns<=4):qj qg 286 [eRS (qt a)] (eRS (qt (kClo a))):=by
 refine qSQ call286 func286 rfl { mt:=[1] } ?_;rw[<-qp9 h J g];simp[go_sem];refine⟨zb _,?_⟩;refine aP 4 (fun i U=>U.tm 1 = .ptr 0 0/\U.tm 2 = .ptr 1 0/\U.tm 3=aI i/\U.mu=[.arr (cRS (qt (itK i a))),.arr (aI 0 :: hB fun _=>false)]) ?_ ?_
 .exact ⟨zSi,zSi,zSi,by simp[go_sem];exact⟨⟨rfl,rfl⟩,rfl⟩⟩
 rintro i U hi ⟨l,o,p,P⟩;by_cases t:i<4
 .have j:(i:Int)<4:=by omega
  have R:=zWk i;obtain⟨ok,o2⟩:=okIt h J i;have T:qj qg 283 [eRS (qt (itK i a)),eRS (qt (itK i a))] (eRS (qt (zM (itK i a) (itK i a)))):=by
   rw[<-qd9 ok ok g zOm];exact uU _ _ (by show 0<=(itK i a).ar/\(itK i a).ar<=1000;omega) (by show 1<=(itK i a).ar/\(itK i a).ar<=1000;omega)
  have cu:qj qg 281 [eRS (qt (itK i a)),eRS (qt (zM (itK i a) (itK i a)))] (eRS (qt (itK (i+1) a))):=by
   have:=jy (qt (itK i a)) (qt (zM (itK i a) (itK i a)));rw[Vx (by simp only[zM];omega)]at this;exact this
  generalize C:qt (itK (i+1) a)=s' at *
  generalize qt (zM (itK i a) (itK i a))=q at *
  generalize qt (itK i a)=s at *
  simp[go_sem,p,P,j];refine tJ zKr ?_;simp[go_sem,l,qw,tk];refine fW T (.zk (yS _) (.zk (yS _) .nil)) ?_;refine t8 cu (.zk (yS _) (.zk (yS _) .nil)) ?_;simp[go_sem,l,qw,pc];rw[if_pos (zb _)];simp[go_sem,p,R];exact⟨t,aM ⟨zS1 l,zS1 o,zSi,zS1 C⟩⟩
 .have I:i=4:=by omega
  subst I;generalize qt (itK 4 a)=s at *
  simp[go_sem,l,o,p,P,qw,tk,pc];rw[if_pos (zb _)];simp[go_sem,o,qw,tk];exact .hf _ (yS s)
theorem qqA(i k)(g:k=1\/k=2):eRS (qt (kSum (zA i k) (kOf (qM k (i:Int)))))=eRS (qt (zA (i+1) k)):=by
 refine Qy rfl fun j l=>?_
 rw[uc,y7,y7];show j<szA (k:Int)/\pad (dig (k:Int) j)∈(kSum (zA i k) (kOf (qM k (i:Int)))).ts↔j<szA (k:Int)/\pad (dig (k:Int) j)∈(qu (i+1)).map fun (x:Nat)=>pad (qM k (x:Int))
 rw[Jo,List.range_succ,zi,qP];rfl
theorem qqB(k):hB (qt (zA 0 k)).2=hB fun _=>false:=u7 fun j _=>decide_eq_false fun h=>absurd h.2 qO
theorem allU(ts)(h:okTS ts)(k:Nat)(T:k=1\/k=2):qj qg 280 [eTS ts,aI k] (eRS (qt (zA ts.sS.length k))):=by
 refine qSV call280 func280 rfl ?_;have a1:=h.ns;have hz:=qqB k;simp[go_sem];refine aP ts.sS.length (fun i U=>U.tm 1=aI k/\U.tm 2 = .ip (cTS ts)/\U.tm 4 = .ptr 0 0/\U.tm 5 = .ptr 1 0/\U.tm 6=aI i/\U.mu=[.arr (aI 0 :: hB fun _=>false),.arr (cRS (qt (zA i k)))]) ?_ ?_
 .exact ⟨zSi,zSi,zSi,zSi,zSi,by
   have e:cRS (qt (zA 0 k))=aI k :: hB fun _=>false:=by simp only[cRS,hz];rfl
   rw[e];simp[go_sem];first|rfl|exact⟨rfl,rfl⟩⟩
 rintro i U hi ⟨I,t,J,j,o,P⟩;by_cases g:i<ts.sS.length
 .have w1:=zWk i
  have c1:∀ l:List Int,l=qM k (i:Int)->qj qg 261 [lI l] (eRS (qt (kOf l))):=fun l p=>by
   have a0:l.length=k:=by rw[p,List.length_replicate]
   have:=oneU l zOm;rw[kF]at this;rw[<-QF.kK (l:=l) zOm (fun x hx=>by rw[p]at hx;rw[List.eq_of_mem_replicate hx];omega)];exact this
  have cu:∀ l:List Int,l=qM k (i:Int)->qj qg 281 [eRS (qt (zA i k)),eRS (qt (kOf l))] (eRS (qt (zA (i+1) k))):=fun l p=>by
   have:=jy (qt (zA i k)) (qt (kOf l));rw[Vx (by show (k:Int)=l.length;rw[p,List.length_replicate]),p,qqA i k T]at this;rw[p];exact this
  generalize C:qt (zA (i+1) k)=s' at *
  generalize qt (zA i k)=s at *
  rcases T with rfl|rfl
  .have d1:=c1 [(i:Int)] rfl
   have d2:=cu [(i:Int)] rfl;generalize qt (kOf [(i:Int)])=q at *
   simp[go_sem,I,t,o,P,g];refine tJ zKr ?_;simp[go_sem,j,o,qw,tk];refine fW d1 (.cons (QD.wk1 _) .nil) ?_;refine t8 d2 (.zk (yS _) (.zk (yS _) .nil)) ?_;simp[go_sem,j,qw,pc];rw[if_pos (zb _)];simp[go_sem,o,w1];exact⟨g,aM ⟨zS1 I,zS1 t,zS1 J,zS1 j,zSi,zS1 C⟩⟩
  .have d1:=c1 [(i:Int),(i:Int)] rfl
   have d2:=cu [(i:Int),(i:Int)] rfl;generalize qt (kOf [(i:Int),(i:Int)])=q at *
   simp[go_sem,I,t,o,P,g];refine tJ zKr ?_;simp[go_sem,j,o,qw,tk];refine fW d1 (.cons (QD.wk2 _ _) .nil) ?_;refine t8 d2 (.zk (yS _) (.zk (yS _) .nil)) ?_;simp[go_sem,j,qw,pc];rw[if_pos (zb _)];simp[go_sem,o,w1];exact⟨g,aM ⟨zS1 I,zS1 t,zS1 J,zS1 j,zSi,zS1 C⟩⟩
 .have R:i=ts.sS.length:=by omega
  subst R;generalize qt (zA ts.sS.length k)=s at *
  simp[go_sem,t,J,j,o,P,qw,tk,pc];rw[if_pos (zb _)];simp[go_sem,J,qw,tk];exact .hf _ (yS s)
end QH
namespace QI
open YF Y9 Y10 Y1 Y2 P1 P2
theorem qqC{c nm k}(l:k<c.calls)(o)(h:c.ts.sT[k].name=nm)(i:∀(j) (g),j<k->c.ts.sT[j].name≠nm):zC c nm=some k:=by
 unfold zC;rw[List.findIdx?_eq_some_iff_getElem];refine⟨zSo,zP1 h,fun j g=>?_⟩;simp[i j zOm g]
theorem qqD{c nm}(i:∀(j) (g),j<c.calls->c.ts.sT[j].name≠nm):zC c nm=none:=by
 unfold zC;rw[List.findIdx?_eq_none_iff];intro p l;obtain⟨j,g,e⟩:=List.mem_iff_getElem.1 l;simp at g;rw[List.getElem_take]at e;rw[<-e];exact decide_eq_false (i j zOm zOm)
abbrev idxO:Option Nat->Int
 |some i=>i
 |none => -1
theorem VC(c)(P:okCk c)(nm):qj qg 149 [eTS c.ts,aI c.calls,aS nm] (aI (idxO (zC c nm))):=by
 refine qSV call149 func149 rfl ?_;have R:=P.calls;have T:=P.ts.np;simp[go_sem];refine aP c.calls (fun k U=>U.tm 1=aI c.calls/\U.tm 2=aS nm/\U.tm 3 = .ip (cTS c.ts)/\U.tm 7=aI k/\∀(j:Nat)(p:j<c.ts.sT.length),j<k->c.ts.sT[j].name≠nm) ?_ ?_
 .exact ⟨zSi,zSi,zSi,zSi,fun j p h=>zOm⟩
 rintro k U hk ⟨l,t,C,e7,I⟩;by_cases g:k<c.calls
 .have w1:=zWk k
  have i:k<c.ts.sT.length:=zOm;by_cases o:c.ts.sT[k].name=nm
  .rw [qqC g i o I]
   simp[go_sem,l,t,C,e7,g,i,o];exact .zsc _
  .simp [go_sem,l,t,C,e7,g,i,j0 o,w1]
   refine aM ⟨zS1 l,zS1 t,zS1 C,zSi,fun j p a0=>?_⟩;by_cases he:j=k
   .subst he;exact o
   .exact I j p zOm
 .have J:k=c.calls:=by omega
  subst J;rw[qqD I];simp[go_sem,l,e7];exact .zsc _
theorem Jr(op):qj qg 254 [aI op] (aB (yX op)):=by
 refine qSV call254 func254 rfl ?_;by_cases g:op=5
 .rw [show yX op=true by simp[yX,g]]
  simp[go_sem,g];exact .zsc _
 by_cases i:48<=op
 .by_cases j:op<=51
  .rw [show yX op=true by unfold yX;rcases (show op=48\/op=49\/op=50\/op=51 by omega) with h|h|h|h<;>simp[h]]
   simp[go_sem,g,i,j];exact .zsc _
  .rw [show yX op=false by simp[yX,g,show ¬op=48 by omega,show ¬op=49 by omega,show ¬op=50 by omega,show ¬op=51 by omega]]
   simp[go_sem,g,i,j];exact .zsc _
 .rw [show yX op=false by simp[yX,g,show ¬op=48 by omega,show ¬op=49 by omega,show ¬op=50 by omega,show ¬op=51 by omega]]
  simp[go_sem,g,i];exact .zsc _
abbrev rBo(b:Bool):List AV:=[aB b]
abbrev lBo(l:List Bool):AV := .lst false (l.map rBo)
theorem VD(l):HF (lBo l):=HF.lst fun r i c g=>by
 obtain⟨b,_,rfl⟩:=qp.1 i;rw[qX]at g;subst g;exact HF.sc _
def tpB(c:Ck)(nm:dC):Bool:=match zC c nm with|some p=>c.timed.getD p false|none=>false
theorem Js(c)(o:okCk c)(nm):qj qg 255 [eTS c.ts,lBo c.timed,aI c.calls,aS nm] (aB (tpB c nm)):=by
 generalize i:tpB c nm=r;unfold tpB at i;refine qSU call255 func255 rfl ?_;refine t8 (VC c o nm) (.zk (zB _) (.zs (.zs .nil))) ?_;cases j:zC c nm with
 |none =>
  rw[j]at i;subst i;simp[go_sem,idxO];exact .zsc _
 |some p =>
  rw[j]at i;by_cases l:p<c.timed.length
  .have g:r=c.timed[p]:=by rw[<-i];simp[List.getD,l]
   subst g;simp[go_sem,idxO,l];exact .zsc _
  .have g:r=false:=by rw[<-i];simp[List.getD,l]
   subst g;simp[go_sem,idxO,l];exact .zsc _
theorem qeC(c)(hc:okCk c)(hl:c.timed.length=c.calls):∀ m n,szN n<=m->Small n->qj qg 260 [eTS c.ts,lBo c.timed,eNd n] (aB (yY c n))
 | 0,n,hm,_=>by obtain⟨op,nm,i,ks,p⟩:=n;simp[szN]at hm
 |m+1,n,hm,hs=>by
  have ih:∀ k,k∈n.sD->qj qg 260 [eTS c.ts,lBo c.timed,eNd k] (aB (yY c k)):=fun k J =>
   qeC c hc hl m k (zW1 (zl J)) (hs.kid J)
  have a0:=hs.len;have P:jc c n.op n.name=(yX n.op||(decide (n.op=47)&&tpB c n.name)):=rfl;rw[nY,P];generalize hR:n.sD.any (yY c)=R;have ct:=Jr n.op;have cp:=Js c hc n.name;generalize yX n.op=T at *
  generalize tpB c n.name=B at *
  refine qSU call260 func260 rfl ?_;refine t8 ct (.zs .nil) ?_;cases T with
  |true =>
   simp[go_sem];exact .zsc _
  |false =>
  rw[Bool.false_or];by_cases h47:n.op=47
  .rw [decide_eq_true h47,Bool.true_and]
   simp[go_sem,h47,hl];refine t8 cp (.zk (zB _) (.zk (VD _) (.zs (.zs .nil)))) ?_;cases B with
   |true =>
    simp[go_sem];exact .zsc _
   |false =>
   rw[Bool.false_or];simp[go_sem];refine aP n.sD.length (fun k U=>U.tm 1=lBo c.timed/\U.tm 3 = .ip (cTS c.ts)/\U.tm 5 = .ip (cNd n)/\U.tm 7=aI k/\(n.sD.drop k).any (yY c)=R) ?_ ?_
   .exact ⟨zSi,zSi,zSi,zSi,zUs hR⟩
   rintro k U J ⟨t,C,l,e7,j⟩;by_cases o:k=n.sD.length
   .subst o
    rw[yf]at j;have j:R=false:=by rw[<-j];rfl
    subst j;simp[go_sem,l,e7];exact .zsc _
   have g:k<n.sD.length:=zOm;have w1:=zWk k;rw[ze g,List.any_cons]at j;have hi:=ih n.sD[k] (qv g);simp[go_sem,l,e7,g];refine tJ zKr ?_;simp[go_sem,t,C,l,e7,g];refine t8 hi (.zk (zB _) (.zk (VD _) (.zk (qE _) .nil))) ?_;cases I:yY c n.sD[k] with
   |true =>
    rw[I,Bool.true_or]at j;subst j;simp[go_sem];exact .zsc _
   |false =>
    rw[I,Bool.false_or]at j;simp[go_sem,e7,g,w1];exact aM ⟨zS1 t,zS1 C,zS1 l,zSi,j⟩
  .rw [decide_eq_false h47,Bool.false_and,Bool.false_or]
   simp[go_sem,h47];refine aP n.sD.length (fun k U=>U.tm 1=lBo c.timed/\U.tm 3 = .ip (cTS c.ts)/\U.tm 5 = .ip (cNd n)/\U.tm 7=aI k/\(n.sD.drop k).any (yY c)=R) ?_ ?_
   .exact ⟨zSi,zSi,zSi,zSi,zUs hR⟩
   rintro k U J ⟨t,C,l,e7,j⟩;by_cases o:k=n.sD.length
   .subst o
    rw[yf]at j;have j:R=false:=by rw[<-j];rfl
    subst j;simp[go_sem,l,e7];exact .zsc _
   have g:k<n.sD.length:=zOm;have w1:=zWk k;rw[ze g,List.any_cons]at j;have hi:=ih n.sD[k] (qv g);simp[go_sem,l,e7,g];refine tJ zKr ?_;simp[go_sem,t,C,l,e7,g];refine t8 hi (.zk (zB _) (.zk (VD _) (.zk (qE _) .nil))) ?_;cases I:yY c n.sD[k] with
   |true =>
    rw[I,Bool.true_or]at j;subst j;simp[go_sem];exact .zsc _
   |false =>
    rw[I,Bool.false_or]at j;simp[go_sem,e7,g,w1];exact aM ⟨zS1 t,zS1 C,zS1 l,zSi,j⟩
theorem kM(l:List Bool):qV 1 (l.map rBo):=fun r g=>by
 obtain⟨b,_,rfl⟩:=qp.1 g;exact⟨rfl,rfl⟩
theorem appBo{mu lo s xs b K}(g:OwnF lo mu 1 s (xs.map rBo))(p:xs.length<=100000)(l:∀ av mu',OwnF lo mu' 1 av ((xs++[b]).map rBo)->(∀ i,i<lo->mu'[i]?=mu[i]?)->K av mu') :
  qx qg mu #[36,36] s (.lst true [[aB b]]) K:=by
 refine qx.ownF (lo:=lo) (e:=4) (sz:=1) (bt:=1) (zv:=aB false) (xs:=xs.map rBo) (ys:=[rBo b]) zSi zSi zSi rfl rfl zOm zOm g (by simp[qA]) (kM xs) (kM [b]) zSo ?_;intro av mu' h o;exact l av mu' (by rw[zi];exact h) o
theorem rdBo{lo mu av l}(i:OwnF lo mu 1 av (l.map rBo)):Rd mu av (lBo l):=
 Own.rd (sz:=1) i.1 (kM l).ok fun r j c g=>by
  obtain⟨b,_,rfl⟩:=qp.1 j;rw[qX]at g;subst g;exact HF.sc _
theorem qqE(ts)(h:okTS ts)(hp:∀ p,p∈ts.sT->WfN p.body):qj qg 210 [eTS ts] (lBo (tmsL ts ts.sT.length)):=by
 refine qSV call210 func210 rfl ?_;have a0:=h.np;simp[go_sem];refine aP ts.sT.length (fun k U=>U.tm 1 = .ip (cTS ts)/\U.tm 4=aI k/\OwnF 0 U.mu 1 (U.tm 3) ((tmsL ts k).map rBo)) ?_ ?_
 .exact ⟨zSi,zSi,by simp[go_sem,tmsL];exact OwnF.nil (Nat.zero_le _)⟩
 rintro k U hk ⟨j,l,o⟩;by_cases g:k<ts.sT.length
 .have w1:=zWk k
  generalize C:U.tm 3=t at *
  have I:=rdBo o;have ht:=qeC (mkCk ts k) (uD h zOm) (ZX ts k zOm) (szN ts.sT[k].body) ts.sT[k].body (qn _) (hp _ (qv g)).small;have T:=ZX ts k zOm;have i:tmsL ts (k+1)=tmsL ts k++[yY (mkCk ts k) ts.sT[k].body]:=by
   show tmsL ts k++(match ts.sT[k]? with|some p=>[yY ⟨ts,k,tmsL ts k⟩ p.body] | none=>[])=_;rw[qy g];rfl
  simp[go_sem,j,l,g];refine tJ zKr ?_;simp[go_sem,j,l,C,g];refine fX (args':=[eTS ts,lBo (tmsL ts k),eNd ts.sT[k].body]) ht ⟨.hf _ (zB ts),I,.hf _ (qE _),trivial⟩ (FL.sc _) ?_;simp[go_sem];refine appBo o zOm fun a1 m' P _=>?_
  simp[go_sem,l,g,w1];exact aM ⟨zS1 j,zSi,by rw[i];simpa[go_sem] using P⟩
 .have R:k=ts.sT.length:=by omega
  subst R;generalize C:U.tm 3=t at *
  simp[go_sem,j,l,C];exact rdBo o
end QI
namespace QJ
open YF Y10 Y1 P1 QD QE QF
abbrev Vr:=dC×RS
abbrev cVr(v:Vr):List AV:=aS v.1 :: cRS v.2
abbrev lVr(l:List Vr):AV := .lst false (l.map cVr)
theorem qeD(v):∀ c,c∈cVr v->HF c:=fun c g=>by
 rcases qz.1 g with rfl|g
 .exact HF.sc _
 .exact ((setC v.2).sc c g).2
theorem qqF(l):HF (lVr l):=HF.lst fun r g c i=>by
 obtain⟨v,_,rfl⟩:=qp.1 g;exact qeD v c i
theorem kN(v):∀ c,c∈cVr v->c.one=true:=fun c g=>by
 rcases qz.1 g with rfl|g
 .rfl
 .exact ((setC v.2).sc c g).1
theorem kO(l:List Vr):qV 66 (l.map cVr):=fun r g=>by
 obtain⟨v,_,rfl⟩:=qp.1 g;exact⟨by simp[hB],qY.2 (kN v)⟩
theorem kP{mu lo s x}{xs ys:List Vr}{K}(g:OwnF lo mu 66 s (xs.map cVr))(j:qA mu x=some (ys.map cVr))(p:xs.length+ys.length<=100000)(l:∀ av mu',OwnF lo mu' 66 av ((xs++ys).map cVr)->(∀ i,i<lo->mu'[i]?=mu[i]?)->K av mu') :
  qx qg mu #[272,272] s x K:=by
 refine qx.ownF (lo:=lo) (e:=323) (sz:=66) (bt:=88) (zv := .agg (aS ⟨#[]⟩ :: aI 0 :: zs)) (xs:=xs.map cVr) (ys:=ys.map cVr) zSi zSi (by simp[go_sem];rfl) rfl rfl zOm zOm g j (kO xs) (kO ys) zSo ?_;intro av mu' h o;exact l av mu' (by rw[zi];exact h) o
theorem rdVr{lo mu av l}(g:OwnF lo mu 66 av (l.map cVr)):Rd mu av (lVr l):=
 Own.rd (sz:=66) g.1 (kO l).ok fun r i c j=>by
  obtain⟨v,_,rfl⟩:=qp.1 i;exact qeD v c j
theorem pcV(n q):putCells (aS n :: aI 0 :: zs) 1 (aI q.1 :: hB q.2)=cVr (n,q):=by
 have g:zs.length=64:=rfl;rw[jm _ _ _ (by simp[qw,g])];simp[qw,g,List.drop_of_length_le]
def envV(env:List (dC×Int)):List Vr:=env.map fun p=>(p.1,qt (kOf [p.2]))
theorem envU(env)(hl:env.length<=1000)(hr:∀ p,p∈env->0<=p.2/\p.2<4):qj qg 211 [lPm env] (lVr (envV env)):=by
 refine qSU call211 func211 rfl ?_;refine aP env.length (fun k U=>U.tm 0=lPm env/\U.tm 4=aI k/\OwnF 0 U.mu 66 (U.tm 3) ((envV (env.take k)).map cVr)) ?_ ?_
 .exact ⟨zSi,zSi,by simp[go_sem,envV];exact OwnF.nil (Nat.zero_le _)⟩
 rintro k U hk ⟨o,I,J⟩;by_cases g:k<env.length
 .have w1:=zWk k
  generalize P:U.tm 3=t at *
  have hp:=hr _ (qv g);have c1:qj qg 261 [lI [env[k].2]] (eRS (qt (kOf [env[k].2]))):=by
   have:=oneU [env[k].2] zSp;rw[kF]at this;rw[<-QF.kK (l:=[env[k].2]) zSp (fun x hx=>by rw[qX]at hx;subst hx;exact hp)];exact this
  have i:envV (env.take (k+1))=envV (env.take k)++[(env[k].1,qt (kOf [env[k].2]))]:=by
   unfold envV;rw[wd g,zi];rfl
  have a3:(envV (env.take k)).length=k:=by simp[envV];omega
  generalize qt (kOf [env[k].2])=q at *
  simp[go_sem,o,I,g];refine tJ zKr ?_;simp[go_sem,o,I,P,g];refine fW c1 (.cons (QD.wk1 _) .nil) ?_;rw[if_pos ⟨qw _,zb _⟩];generalize hC:putCells _ 1 _=C;have R:C=cVr (env[k].1,q):=by rw[<-hC];exact pcV _ _
  subst R;clear hC;have T:(cVr (env[k].1,q)).length=66:=by simp[qw]
  have a0:=kN (env[k].1,q);generalize hV:cVr (env[k].1,q)=V at *
  simp[go_sem,T];rw[if_pos a0];simp[go_sem];refine kP (ys:=[(env[k].1,q)]) J (by simp[qA,hV]) zSo fun a4 m' a1 _=>?_
  simp[go_sem,I,g,w1];exact aM ⟨zS1 o,zSi,by rw[i];simpa[go_sem] using a1⟩
 .have a2:k=env.length:=by omega
  subst a2;rw[za]at J;generalize P:U.tm 3=t at *
  simp[go_sem,o,I,P];exact rdVr J
end QJ
namespace QK
open Y9 Y2 P1 QD QE QF
def fin(c:List AV)(l:List Kd):List AV:=match l.getLast? with|some k=>cRS (qt k)|none=>c
theorem VE(c l m):fin c (l++m)=fin (fin c l) m:=by
 unfold fin;rw[List.getLast?_append];cases m.getLast?<;>rfl
theorem Wh(c k):fin c [k]=cRS (qt k):=rfl
theorem oneK{l}(h:1<=l.length/\l.length<=3)(g:∀ x,x∈l->0<=x/\x<4):oneC l=cRS (qt (kOf l)):=by
 rw[kF];exact AV.agg.inj (QF.kK h g)
theorem qeE(nm):∀ l c k,(∀ f,f∈l->(1<=f.sS.length/\f.sS.length<=3)/\∀ x,x∈f.sS->0<=x/\x<4)->nmF nm l (c,k)=(fin c (z7 l nm),k+(z7 l nm).length)
 | [],c,k,_=>rfl
 |f :: l,c,k,h=>by
  have hf:=h f (zo ..);have j:=fun c k=>qeE nm l c k fun g o=>h g (q9 _ o)
  by_cases i:f.name=nm
  .have e:z7 (f :: l) nm=[kOf f.sS]++z7 l nm:=by simp[z7,i]
   rw[e,VE,Wh];simp only[nmF,stF,if_pos i];rw[j,oneK hf.1 hf.2];simp;omega
  .have e:z7 (f :: l) nm=z7 l nm:=by simp[z7,i]
   rw[e];simp only[nmF,stF,if_neg i];exact j c k
theorem st_eq(nm i)(I:i<4)(x c k):st3 nm i x (st2 nm i x (st1 nm i x (c,k)))=(fin c (vO i x nm),k+(vO i x nm).length):=by
 have j:=oneK (l:=[(i:Int)]) zSp (fun y g=>by simp at g;subst g;omega);have o:=oneK (l:=[(i:Int),(i:Int)]) zSp (fun y g=>by simp at g;rcases g with rfl|rfl<;>omega);have p:∀ c k,st1 nm i x (c,k)=(fin c (if x.1=nm then [kOf [(i:Int)]] else []),k+(if x.1=nm then [kOf [(i:Int)]] else []).length):=fun c k=>by
  unfold st1;split
  .rw [Wh,j];rfl
  .rfl
 have t:∀ c k,st2 nm i x (c,k)=(fin c (if x.2=true/\x.1++yP=nm then [kOf [(i:Int)]] else []),k+(if x.2=true/\x.1++yP=nm then [kOf [(i:Int)]] else []).length):=fun c k=>by
  unfold st2;split
  .rw [Wh,j];rfl
  .rfl
 have C:∀ c k,st3 nm i x (c,k)=(fin c (if x.2=true/\x.1++jq=nm then [kOf [(i:Int),(i:Int)]] else []),k+(if x.2=true/\x.1++jq=nm then [kOf [(i:Int),(i:Int)]] else []).length):=fun c k=>by
  unfold st3;split
  .rw [Wh,o];rfl
  .rfl
 unfold vO;rw[p,t,C,VE,VE,zj,zj];simp only[Nat.add_assoc]
theorem qeF(nm):∀ l i c k,i+l.length<=4->nmS nm i l (c,k)=(fin c (yr i l nm),k+(yr i l nm).length)
 | [],i,c,k,_=>rfl
 |x :: l,i,c,k,h=>by
  simp only[yy]at h;have g:=fun c k=>qeF nm l (i+1) c k zOm
  simp only[nmS,yr];rw[st_eq nm i zOm,g,VE,zj,Nat.add_assoc]
theorem kQ{ts}(h:okTS ts)(nm):named ts nm=(fin (aI 0 :: zs) (zS ts nm),(zS ts nm).length):=by
 unfold named zS;rw[qeE nm ts.sA _ _ fun f hf=>?_,qeF nm ts.sS _ _ _ (zW1 h.ns),VE,zj,yJ];have:=h.fl f hf;have g:=h.ns;exact⟨zOm,fun x i=>zW1 (this.2.2 x i)⟩
end QK
namespace QL
open YF Y9 Y1 Y2 P1 QD QE QF QI QJ QK
abbrev cVw(c:Ck)(inn:Bool):List AV:=[lSo c.ts.sS,lFl c.ts.sA,lPd c.ts.sT,lFa c.ts.sP,lBo c.timed,aI c.calls,aB inn]
abbrev eVw(c:Ck)(inn:Bool):AV := .agg (cVw c inn)
def envS(s:Scp):List Vr:=s.reverse.map fun v=>(v.1,qt v.2)
theorem Wi(s):(envS s).length=s.length:=by simp[envS]
theorem qeG(env):envV env=envS (zO env):=by
 have h:∀(l:List (dC×Int))(a:Scp),l.foldl (fun s p=>(p.1,kOf [p.2]) :: s) a=(l.map fun p=>(p.1,kOf [p.2])).reverse++a:=by
  intro l;induction l with
  |nil=>intro a;rfl
  |cons p l g=>intro a;rw[List.foldl_cons,g];simp
 unfold envV envS zO;rw[h,ye,List.reverse_reverse,List.map_map];rfl
theorem qqG(s d h g):(envS s)[s.length-1-d]=(s[d].1,qt s[d].2):=by
 have e:s.length-1-(s.length-1-d)=d:=zOm;simp[envS,List.getElem_reverse,e]
abbrev zR:RS:=(0,fun _=>false)
abbrev eDg(d:Dg):AV := .agg [aI d.1,aI d.2]
def endR(z:RS):Res->AV
 | .error e => .tup [eRS z,eDg e]
 | .ok (some k) => .tup [eRS (qt k),eDg (0,0)]
 | .ok none => .tup [eRS zR,eDg (0,0)]
theorem vH(s d):HF (.tup [eRS s,eDg d]):=HF.tup fun x g=>by
 rcases qz.1 g with rfl|g
 .exact yS s
 .rw [qX]at g;subst g
  exact HF.agg fun c i=>by
   rcases qz.1 i with rfl|i
   .exact HF.sc _
   .rw [qX]at i;subst i;exact HF.sc _
theorem tN{ts}(h:okTS ts):okNm ts:=⟨h.sl,zW1 h.ns,zW1 h.nf,fun f hf=>zW1 (h.fl f hf)⟩
theorem wO(c)(hc:okCk c)(inn s n)(hs:s.length<=100000):qj qg 256 [eVw c inn,lVr (envS s),eNd n] (endR zR (yQ c s n.name n.pos)):=by
 generalize i:endR zR (yQ c s n.name n.pos)=R;unfold yQ at i;refine qSV call256 func256 rfl ?_;have a1:=Wi s;have w0:qo.wrap ((s.length:Int)-1)=(s.length:Int)-1:=zWr;simp[go_sem,a1,w0];refine aP s.length (fun d U=>U.tm 1=lVr (envS s)/\U.tm 3 = .ip (cVw c inn)/\U.tm 5 = .ip (cNd n)/\U.tm 6 = .ptr 0 0/\U.tm 7 = .ptr 1 0/\U.tm 8=aI ((s.length:Int)-1-d)/\U.mu=[.arr (aI 0 :: hB fun _=>false),.arr [aI 0,aI 0]]/\zK n.name (s.drop d)=zK n.name s) ?_ ?_
 .exact ⟨zSi,zSi,zSi,zSi,zSi,zSi,by simp[go_sem];first|rfl|exact⟨rfl,rfl⟩,rfl⟩
 rintro d U hd ⟨e1,e3,t,p,e7,j,hm,I⟩;by_cases J:d<s.length
 .have T:s.length-1-d<(envS s).length:=by omega
  have g:=qqG s d J T;obtain⟨e,he⟩:∃ e:Nat,e=s.length-1-d:=⟨_,rfl⟩;have a2:(s.length:Int)-1-d=(e:Int):=zOm;rw[a2]at j;rw[<-he]at T;have g:(envS s)[e]=(s[d].1,qt s[d].2):=by simp only[he];exact g
  have w1:qo.wrap ((e:Int)-1)=(s.length:Int)-1-((d+1:Nat):Int):=by rw[zWr];omega
  rw[ze J]at I;have h0:(0:Int)<=(e:Int):=zOm;by_cases hq:s[d].1=n.name
  .have hf:zK n.name s=s[d] :: s.drop (d+1):=by rw[<-I,zK,if_pos hq]
   rw[hf]at i;simp only[endR]at i;have i:R = .tup [eRS (qt s[d].2),eDg (0,0)]:=i.symm;subst i;simp[go_sem,j,hm];refine tJ zKr ?_;simp[go_sem,e1,j,T,g,hq];generalize qt s[d].2=q at *
   simp[go_sem,e1,t,p,j,T,g,qw,tk,pc];rw[if_pos (zb _)];simp[go_sem,p,e7,qw,tk];exact .hf _ (vH q (0,0))
  .rw [zK,if_neg hq]at I
   simp[go_sem,j,hm];refine tJ zKr ?_;simp[go_sem,e1,t,j,T,g,j0 hq,w1,qw];exact⟨zOm,aM ⟨zS1 e1,zS1 e3,zS1 t,zS1 p,by simp[go_sem,e7],zSi,zSi,I⟩⟩
 .have a3:d=s.length:=by omega
  subst a3;have j:U.tm 8=aI (-1):=by rw[j];congr 2;omega
  rw[yf]at I;rw[<-I]at i;simp only[zK]at i;have hN:=kE c.ts (tN hc.ts) n.name;have a0:=kC c.ts n.name;rw[kQ hc.ts]at hN a0;simp[go_sem,e3,t,j,hm];refine t8 hN (.zk (zB _) (.zs .nil)) ?_;have o:SetC (fin (aI 0 :: zs) (zS c.ts n.name)):=a0;generalize a4:zS c.ts n.name=ms at *
  match ms,a4 with
  | [],_ =>
   simp only[endR]at i;subst i;generalize fin (aI 0 :: zs) []=C at *
   simp[go_sem,o.len];rw[if_pos o.one];simp[go_sem];refine fG [0,1,2,3,4,5] [(4,1,[2]),(5,1,[])] zKr zKr zSi ?_;simp[go_sem,t,p,e7,nB,qw];exact .hf _ (vH zR (_,n.pos))
  | [k],_ =>
   simp only[endR]at i;subst i;have e:fin (aI 0 :: zs) [k]=aI (qt k).1 :: hB (qt k).2:=rfl;rw[e]at o⊢;generalize qt k=q at *
   simp[go_sem,o.len];rw[if_pos (zb _)];generalize hP:putCells _ 0 (aI q.1 :: hB q.2)=P;have a5:P=aI q.1 :: hB q.2:=by rw[<-hP];exact pc (aI 0) _ (fun _=>false) _
   subst a5;clear hP;simp[go_sem,p,o.len,qw,tk,pc];rw[if_pos (zb _)];simp[go_sem,p,e7,o.len,tk];exact .hf _ (vH q (0,0))
  |k1 :: k2 :: l,_ =>
   simp only[endR]at i;subst i;generalize fin (aI 0 :: zs) (k1 :: k2 :: l)=C at *
   simp[go_sem,o.len];rw[if_pos o.one];simp[go_sem];have a6:¬((l.length:Int)+1+1=0):=zOm;have a7:(1:Int)<(l.length:Int)+1+1:=zOm;simp[go_sem,a6,a7];refine fG [0,1,2,3,4,5] [(4,1,[2]),(5,1,[])] zKr zKr zSi ?_;simp[go_sem,t,p,e7,nB,qw];exact .hf _ (vH zR (_,n.pos))
end QL
namespace QM
open Y1
theorem qqH(n):qj qg 208 [eNd n] (aB (decide (30<=n.op))):=by
 refine qSV call208 func208 rfl ?_;by_cases h:30<=n.op
 .simp [go_sem,h];exact .zsc _
 .simp [go_sem,h];exact .zsc _
end QM
namespace QN
open Y1 Y2 YF Y9 Y10 P1 P2 QD QE QF QH QL
def setO:Option Kd->RS
 |some k=>qt k
 |none=>zR
abbrev lRS(l:List RS):AV := .lst false (l.map cRS)
theorem qqI(v):∀ c,c∈cRS v->HF c:=fun c g=>((setC v).sc c g).2
theorem qqJ(v):∀ c,c∈cRS v->c.one=true:=fun c g=>((setC v).sc c g).1
theorem kR(l:List RS):qV 65 (l.map cRS):=fun r g=>by
 obtain⟨v,_,rfl⟩:=qp.1 g
 grind [hB,qY,qqJ]
theorem appRS{mu lo s x}{xs ys:List RS}{K}(g:OwnF lo mu 65 s (xs.map cRS))(j:qA mu x=some (ys.map cRS))(l:xs.length+ys.length<=100000)(o:∀ av mu',OwnF lo mu' 65 av ((xs++ys).map cRS)->(∀ i,i<lo->mu'[i]?=mu[i]?)->K av mu') :
  qx qg mu #[317,317] s x K:=by
 refine qx.ownF (lo:=lo) (e:=266) (sz:=65) (bt:=72) (zv := .agg (aI 0 :: zs)) (xs:=xs.map cRS) (ys:=ys.map cRS) zSi zSi (by simp[go_sem];rfl) rfl rfl zOm zOm g j (kR xs) (kR ys) zSo ?_
 grind
theorem rdRS{lo mu av l}(g:OwnF lo mu 65 av (l.map cRS)):Rd mu av (lRS l):=
 Own.rd (sz:=65) g.1 (kR l).ok fun r i c j=>by
  obtain⟨v,_,rfl⟩:=qp.1 i;exact qqI v c j
theorem jU(s b):HF (.tup [eRS s,aB b]):=HF.tup fun x g=>by
 rcases qz.1 g with rfl|g
 .exact yS s
 grind [qX,HF.sc]
def ApE(op:Int):Res->RS->Bool->Prop
 | .ok k,S,b=>b=true/\(kd op=101->∃ q,k=some q/\S=qt q)
 | .error _,S,b=>b=false
theorem wkS1(a):WKs [eRS a] [eRS a] := .zk (yS _) .nil
theorem wkS2(a b):WKs [eRS a,eRS b] [eRS a,eRS b] := .zk (yS _) (.zk (yS _) .nil)
theorem wkTI(ts k):WKs [eTS ts,aI k] [eTS ts,aI k] := .zk (zB _) (.zs .nil)
theorem qeH(n):eRS (n,fun _=>false)=eRS (qt ⟨n,[]⟩):=Qy rfl fun j _=>(decide_eq_false fun h=>absurd h.2 qO).symm
def itS:Nat->RS->RS
 | 0,s=>s
 |i+1,s=>uniS (itS i s) (Ya (itS i s) (itS i s))
theorem qeI(s):∀ i,(itS i s).1=s.1
 | 0=>rfl
 |i+1=>qeI s i
theorem qeJ(g)(h:1<=g.1/\g.1<=3):qj qg 286 [eRS g] (eRS (itS 4 g)):=by
 refine qSQ call286 func286 rfl { mt:=[1] } ?_;simp[go_sem];refine⟨zb _,?_⟩;refine aP 4 (fun i U=>U.tm 1 = .ptr 0 0/\U.tm 2 = .ptr 1 0/\U.tm 3=aI i/\U.mu=[.arr (cRS (itS i g)),.arr (aI 0 :: hB fun _=>false)]) ?_ ?_
 .exact ⟨zSi,zSi,zSi,by simp[go_sem];exact⟨⟨rfl,rfl⟩,rfl⟩⟩
 rintro i U hi ⟨l,p,t,C⟩;by_cases P:i<4
 .have j:(i:Int)<4:=by omega
  have w1:=zWk i;have R:=qeI g i;have T:=uU (itS i g) (itS i g) zOm zOm;have I:=jy (itS i g) (Ya (itS i g) (itS i g));have J:uniS (itS i g) (Ya (itS i g) (itS i g))=itS (i+1) g:=rfl;rw[J]at I;clear J;generalize a0:itS (i+1) g=s' at *
  generalize Ya (itS i g) (itS i g)=q at *
  generalize itS i g=s at *
  simp[go_sem,t,C,j];refine tJ zKr ?_;simp[go_sem,l,qw,tk];refine fW T (.zk (yS _) (.zk (yS _) .nil)) ?_;refine t8 I (.zk (yS _) (.zk (yS _) .nil)) ?_;simp[go_sem,l,qw,pc];rw[if_pos (zb _)];simp_all[go_sem,aM]
 .have o:i=4:=by omega
  subst o;generalize itS 4 g=s at *
  simp[go_sem,l,p,t,C,qw,tk,pc];rw[if_pos (zb _)];simp[go_sem,p,qw,tk];exact .hf _ (yS s)
def prC(ts:TS)(n:Nd)(l:List RS)(S:RS)(b:Bool):Prop:=qj qg 259 [eTS ts,eNd n,lRS l] (.tup [eRS S,aB b])
theorem ap2(ts n L)(h:n.op=2):prC ts n L (n.n,fun _=>false) true:=by
 unfold prC;refine qSV call259 func259 rfl ?_;simp[go_sem,h];exact .hf _ (jU (n.n,fun _=>false) true)
theorem ap3(ts)(ok:okTS ts)(n L)(h:n.op=3):prC ts n L (qt (zA ts.sS.length 1)) true:=by
 unfold prC;refine qSV call259 func259 rfl ?_;have c1:=allU ts ok 1 zOm;generalize qt (zA ts.sS.length 1)=q at *
 simp[go_sem,h];refine t8 c1 (wkTI ts 1) ?_;simp[go_sem,qw];rw[if_pos (zb _)];generalize i:putCells _ 0 (aI q.1 :: hB q.2)=P;have g:P=aI q.1 :: hB q.2:=by rw[<-i];exact pc (aI 0) _ (fun _=>false) _
 subst g;clear i;simp[go_sem,qw,tk];exact .hf _ (jU q _)
theorem ap4(ts)(ok:okTS ts)(n L)(h:n.op=4):prC ts n L (qt (zA ts.sS.length 2)) true:=by
 unfold prC;refine qSV call259 func259 rfl ?_;have c1:=allU ts ok 2 zOm;generalize qt (zA ts.sS.length 2)=q at *
 simp[go_sem,h];refine t8 c1 (wkTI ts 2) ?_;simp[go_sem,qw];rw[if_pos (zb _)];generalize i:putCells _ 0 (aI q.1 :: hB q.2)=P;have g:P=aI q.1 :: hB q.2:=by rw[<-i];exact pc (aI 0) _ (fun _=>false) _
 subst g;clear i;simp[go_sem,qw,tk];exact .hf _ (jU q _)
theorem ap5(ts n q)(h:n.op=5):prC ts n [q] q true:=by
 unfold prC;refine qSV call259 func259 rfl ?_;simp[go_sem,h,qw,tk];rw[if_pos (zb _)];generalize i:putCells _ 0 (aI q.1 :: hB q.2)=P;have g:P=aI q.1 :: hB q.2:=by rw[<-i];exact pc (aI 0) _ (fun _=>false) _
 subst g;clear i;simp[go_sem,qw,tk];exact .hf _ (jU q _)
theorem ap6(ts n q r S)(h:n.op=6)(c:qj qg 281 [eRS q,eRS r] (eRS S)):prC ts n [q,r] S (decide (q.1=r.1)):=by
 unfold prC;refine qSV call259 func259 rfl ?_;simp[go_sem,h];refine fG [0,1,2,3,4,5,7,8,9,10,11,12,13,14,15,17,6,16] [(6,1,[10,14]),(16,1,[10,14])] zKr zKr zSi ?_;simp[go_sem,qw,tk];refine t8 c (wkS2 q r) ?_;simp[go_sem,qw];rw[if_pos (zb _)];generalize i:putCells _ 0 (aI S.1 :: hB S.2)=P;have g:P=aI S.1 :: hB S.2:=by rw[<-i];exact pc (aI 0) _ (fun _=>false) _
 subst g;clear i;simp[go_sem,qw,tk];exact .hf _ (jU S _)
theorem ap14(ts n q r S)(h:n.op=14)(c:qj qg 281 [eRS q,eRS r] (eRS S)):prC ts n [q,r] S (decide (q.1=r.1)):=by
 unfold prC;refine qSV call259 func259 rfl ?_;simp[go_sem,h];refine fG [0,1,2,3,4,5,7,8,9,10,11,12,13,14,15,17,6,16] [(6,1,[10,14]),(16,1,[10,14])] zKr zKr zSi ?_;simp[go_sem,qw,tk];refine t8 c (wkS2 q r) ?_;simp[go_sem,qw];rw[if_pos (zb _)];generalize i:putCells _ 0 (aI S.1 :: hB S.2)=P;have g:P=aI S.1 :: hB S.2:=by rw[<-i];exact pc (aI 0) _ (fun _=>false) _
 subst g;clear i;simp[go_sem,qw,tk];exact .hf _ (jU S _)
theorem ap7(ts n q r S)(h:n.op=7)(c:qj qg 282 [eRS q,eRS r] (eRS S)):prC ts n [q,r] S (decide (q.1=r.1)):=by
 unfold prC;refine qSV call259 func259 rfl ?_;simp[go_sem,h];refine fG [0,1,2,3,4,5,7,8,9,10,11,12,13,14,15,17,6,16] [(6,1,[10,14]),(16,1,[10,14])] zKr zKr zSi ?_;simp[go_sem,qw,tk];refine t8 c (wkS2 q r) ?_;simp[go_sem,qw];rw[if_pos (zb _)];generalize i:putCells _ 0 (aI S.1 :: hB S.2)=P;have g:P=aI S.1 :: hB S.2:=by rw[<-i];exact pc (aI 0) _ (fun _=>false) _
 subst g;clear i;simp[go_sem,qw,tk];exact .hf _ (jU S _)
theorem ap8(ts n q r)(h:n.op=8):prC ts n [q,r] q (decide (q.1=r.1)):=by
 unfold prC;refine qSV call259 func259 rfl ?_;simp[go_sem,h];refine fG [0,1,2,3,4,5,6,7,8,9,10,11,13,12] [(12,1,[6,10])] zKr zKr zSi ?_;simp[go_sem,qw,tk];rw[if_pos (zb _)];generalize i:putCells _ 0 (aI q.1 :: hB q.2)=P;have g:P=aI q.1 :: hB q.2:=by rw[<-i];exact pc (aI 0) _ (fun _=>false) _
 subst g;clear i;simp[go_sem,qw,tk];exact .hf _ (jU q _)
theorem ap32(ts n q r)(h:n.op=32):prC ts n [q,r] zR (decide (q.1=r.1)):=by
 unfold prC;refine qSV call259 func259 rfl ?_;simp[go_sem,h];refine fG [0,1,2,3,4,5,6,7,8,9,11,10] [(10,1,[4,8])] zKr zKr zSi ?_;simp[go_sem,qw];exact .hf _ (jU zR _)
theorem ap33(ts n q r)(h:n.op=33):prC ts n [q,r] zR (decide (q.1=r.1)):=by
 unfold prC;refine qSV call259 func259 rfl ?_;simp[go_sem,h];refine fG [0,1,2,3,4,5,6,7,8,9,11,10] [(10,1,[4,8])] zKr zKr zSi ?_;simp[go_sem,qw];exact .hf _ (jU zR _)
theorem ap9(ts n q r S)(h:n.op=9)(o:0<=q.1/\q.1<=1000)(p:0<=r.1/\r.1<=1000)(c:qj qg 283 [eRS q,eRS r] (eRS S)):prC ts n [q,r] S (decide (1<=q.1+r.1-2/\q.1+r.1-2<=3)):=by
 unfold prC;refine qSV call259 func259 rfl ?_;have l:qo.wrap (q.1+r.1)=q.1+r.1:=zWr;have w2:qo.wrap (q.1+r.1-2)=q.1+r.1-2:=zWr;simp[go_sem,h];refine tJ zKr ?_;simp[go_sem,qw,l,w2];refine tJ zKr ?_;by_cases j:1<=q.1+r.1-2
 .simp [go_sem,qw,tk,j]
  refine t8 c (wkS2 q r) ?_;simp[go_sem,qw,j];rw[if_pos (zb _)];generalize i:putCells _ 0 (aI S.1 :: hB S.2)=P;have g:P=aI S.1 :: hB S.2:=by rw[<-i];exact pc (aI 0) _ (fun _=>false) _
  subst g;clear i;simp[go_sem,qw,tk];exact .hf _ (jU S _)
 .simp [go_sem,qw,tk,j]
  refine t8 c (wkS2 q r) ?_;simp[go_sem,qw,j];rw[if_pos (zb _)];generalize i:putCells _ 0 (aI S.1 :: hB S.2)=P;have g:P=aI S.1 :: hB S.2:=by rw[<-i];exact pc (aI 0) _ (fun _=>false) _
  subst g;clear i;simp[go_sem,qw,tk];exact .hf _ (jU S _)
theorem ap10(ts n q r S)(h:n.op=10)(l:0<=q.1/\q.1<=1000)(o:0<=r.1/\r.1<=1000)(c:qj qg 284 [eRS q,eRS r] (eRS S)):prC ts n [q,r] S (decide (q.1+r.1<=3)):=by
 unfold prC;refine qSV call259 func259 rfl ?_;have j:qo.wrap (q.1+r.1)=q.1+r.1:=zWr;simp[go_sem,h];refine fG [0,1,2,3,4,5,7,8,9,10,11,12,13,14,15,16,18,6,17] [(6,1,[10,14]),(17,1,[10,14])] zKr zKr zSi ?_;simp[go_sem,qw,tk,j];refine t8 c (wkS2 q r) ?_;simp[go_sem,qw];rw[if_pos (zb _)];generalize i:putCells _ 0 (aI S.1 :: hB S.2)=P;have g:P=aI S.1 :: hB S.2:=by rw[<-i];exact pc (aI 0) _ (fun _=>false) _
 subst g;clear i;simp[go_sem,qw,tk];exact .hf _ (jU S _)
theorem ap11(ts n q S)(h:n.op=11)(c:qj qg 285 [eRS q] (eRS S)):prC ts n [q] S (decide (q.1=2)):=by
 unfold prC;refine qSV call259 func259 rfl ?_;simp[go_sem,h];refine fG [0,1,2,4,5,6,7,8,10,3,9] [(3,1,[7]),(9,1,[7])] zKr zKr zSi ?_;simp[go_sem,qw,tk];refine t8 c (wkS1 q) ?_;simp[go_sem,qw];rw[if_pos (zb _)];generalize i:putCells _ 0 (aI S.1 :: hB S.2)=P;have g:P=aI S.1 :: hB S.2:=by rw[<-i];exact pc (aI 0) _ (fun _=>false) _
 subst g;clear i;simp[go_sem,qw,tk];exact .hf _ (jU S _)
theorem ap12(ts n q S)(h:n.op=12)(c:qj qg 286 [eRS q] (eRS S)):prC ts n [q] S (decide (q.1=2)):=by
 unfold prC;refine qSV call259 func259 rfl ?_;simp[go_sem,h];refine fG [0,1,2,4,5,6,7,8,10,3,9] [(3,1,[7]),(9,1,[7])] zKr zKr zSi ?_;simp[go_sem,qw,tk];refine t8 c (wkS1 q) ?_;simp[go_sem,qw];rw[if_pos (zb _)];generalize i:putCells _ 0 (aI S.1 :: hB S.2)=P;have g:P=aI S.1 :: hB S.2:=by rw[<-i];exact pc (aI 0) _ (fun _=>false) _
 subst g;clear i;simp[go_sem,qw,tk];exact .hf _ (jU S _)
theorem ap13(ts)(ok:okTS ts)(n q C S)(h:n.op=13)(c:qj qg 286 [eRS q] (eRS C))(c2:qj qg 281 [eRS C,eRS (qt (zA ts.sS.length 2))] (eRS S)):prC ts n [q] S (decide (q.1=2)):=by
 unfold prC;refine qSV call259 func259 rfl ?_;have c1:=allU ts ok 2 zOm;generalize qt (zA ts.sS.length 2)=D at *
 simp[go_sem,h];refine fG [0,1,2,4,7,8,9,10,11,13,3,5,6,12] [(3,1,[4,10]),(5,1,[10]),(6,1,[10]),(12,1,[10])] zKr zKr zSi ?_;simp[go_sem,qw,tk];refine t8 c (wkS1 q) ?_;simp[go_sem,qw];refine t8 c1 (wkTI ts 2) ?_;simp[go_sem,qw];refine t8 c2 (wkS2 C D) ?_;simp[go_sem,qw];rw[if_pos (zb _)];generalize i:putCells _ 0 (aI S.1 :: hB S.2)=P;have g:P=aI S.1 :: hB S.2:=by rw[<-i];exact pc (aI 0) _ (fun _=>false) _
 subst g;clear i;simp[go_sem,qw,tk];exact .hf _ (jU S _)
theorem apO(ts n L)(C:n.op≠2)(I:n.op≠3)(J:n.op≠4)(P:n.op≠5)(R:n.op≠6)(g:n.op≠14)(T:n.op≠7)(U:n.op≠8)(i:n.op≠32)(j:n.op≠33)(h9:n.op≠9)(l:n.op≠10)(o:n.op≠11)(p:n.op≠12)(t:n.op≠13):prC ts n L zR true:=by
 unfold prC;refine qSV call259 func259 rfl ?_;simp[go_sem,C,I,J,P,R,g,T,U,i,j,h9,l,o,p,t];exact .hf _ (jU zR true)
end QN
namespace QO
open YF Y9 Y10 Y1 Y2 Y3 Y12 Y13 P1 P2 QD QE QF QH QI QJ QL QN PG PC
section
variable {ts:TS}
theorem qeK{n L S g b}(e:eRS S=eRS g)(h:prC ts n L S b):prC ts n L g b:=by
 grind [prC]
theorem qqK{n a b}(j:n.op=6\/n.op=14\/n.op=7\/n.op=8\/n.op=32\/n.op=33):∃ S,prC ts n [qt a,qt b] S (decide (a.ar=b.ar))/\(a.ar=b.ar->kd n.op=101->S=qt (un n.op a b)):=by
 have l:∀ op:Int,op=6\/op=14->un op a b=kSum a b:=fun op h=>by unfold un;rw[if_pos h]
 by_cases g:a.ar=b.ar
 .rcases j with h|h|h|h|h|h
  .exact ⟨_,ap6 ts n _ _ _ h (by have:=jy (qt a) (qt b);rw[Vx g]at this;exact this),fun _ _=>by grind⟩
  .exact ⟨_,ap14 ts n _ _ _ h (by have:=jy (qt a) (qt b);rw[Vx g]at this;exact this),fun _ _=>by grind⟩
  .exact ⟨_,ap7 ts n _ _ _ h (by have:=YQ (qt a) (qt b);rw[qpZ g]at this;exact this),fun _ _=>by rw[h];rfl⟩
  .exact ⟨_,ap8 ts n _ _ h,fun _ _=>by rw[h];rfl⟩
  .exact ⟨_,ap32 ts n _ _ h,fun _ i=>by rw[h]at i;exact absurd i zDe⟩
  .exact ⟨_,ap33 ts n _ _ h,fun _ i=>by rw[h]at i;exact absurd i zDe⟩
 .rcases j with h|h|h|h|h|h
  .exact ⟨_,ap6 ts n _ _ _ h (jy (qt a) (qt b)),fun e=>absurd e g⟩
  .exact ⟨_,ap14 ts n _ _ _ h (jy (qt a) (qt b)),fun e=>absurd e g⟩
  .exact ⟨_,ap7 ts n _ _ _ h (YQ (qt a) (qt b)),fun e=>absurd e g⟩
  .exact ⟨_,ap8 ts n _ _ h,fun e=>absurd e g⟩
  .exact ⟨_,ap32 ts n _ _ h,fun e=>absurd e g⟩
  .exact ⟨_,ap33 ts n _ _ h,fun e=>absurd e g⟩
theorem qqL(ok:okTS ts){n a}(l:okKd ts.sS.length a)(o:n.op=11\/n.op=12\/n.op=13):∃ S,prC ts n [qt a] S (decide (a.ar=2))/\(a.ar=2->S=qt (binK ts.sS.length n.op a)):=by
 have i:=ok.ns;by_cases g:a.ar=2
 .have p:=Uy l g i
  rcases o with h|h|h
  .exact ⟨_,ap11 ts n _ _ h (by have:=qd4 (qt a);rw[qp5 l i g]at this;exact this),fun _=>by rw[h];rfl⟩
  .exact ⟨_,ap12 ts n _ _ h p,fun _=>by rw[h];rfl⟩
  .refine ⟨_,ap13 ts ok n _ _ (qt (kSum (kClo a) (zA ts.sS.length 2))) h p ?_,fun _=>by rw[h];rfl⟩
   have:=jy (qt (kClo a)) (qt (zA ts.sS.length 2));rw[Vx (show (kClo a).ar=2 from (YK l g).2)]at this;exact this
 .have j:=l.ar
  rcases o with h|h|h
  .exact ⟨_,ap11 ts n _ _ h (qd4 (qt a)),fun e=>absurd e g⟩
  .exact ⟨_,ap12 ts n _ _ h (qeJ (qt a) j),fun e=>absurd e g⟩
  .exact ⟨_,ap13 ts ok n _ _ _ h (qeJ (qt a) j) (jy _ _),fun e=>absurd e g⟩
theorem qqM(ts)(ok:okTS ts)(n l L)(e1:n.op≠1)(a0:n.op≠15)
  (h1:n.op=5\/n.op=11\/n.op=12\/n.op=13->∃ a,l=[some a]/\L=[qt a]/\okKd ts.sS.length a)
  (h2:n.op=6\/n.op=14\/n.op=7\/n.op=8\/n.op=32\/n.op=33\/n.op=9\/n.op=10->∃ a b,l=[some a,some b]/\L=[qt a,qt b]/\okKd ts.sS.length a/\okKd ts.sS.length b) :
  ∃ S b,prC ts n L S b/\ApE n.op (zE ts.sS.length n.op n.n n.pos l) S b:=by
 have C:=ok.ns;by_cases j:n.op=2
 .refine ⟨qt ⟨n.n,[]⟩,true,qeK (qeH n.n) (ap2 ts n L j),?_⟩
  unfold zE;rw[if_pos j];exact⟨rfl,fun _=>⟨_,rfl,rfl⟩⟩
 by_cases o:n.op=3
 .refine ⟨_,true,ap3 ts ok n L o,?_⟩
  unfold zE;rw[if_neg j,if_pos o];exact⟨rfl,fun _=>⟨_,rfl,rfl⟩⟩
 by_cases t:n.op=4
 .refine ⟨_,true,ap4 ts ok n L t,?_⟩
  unfold zE;rw[if_neg j,if_neg o,if_pos t];exact⟨rfl,fun _=>⟨_,rfl,rfl⟩⟩
 by_cases g1:n.op=5\/n.op=11\/n.op=12\/n.op=13
 .obtain ⟨a,rfl,rfl,I⟩:=h1 g1
  rw[apK1,if_neg j,if_neg o,if_neg t];by_cases P:n.op=5
  .rw [if_pos P]
   exact⟨_,true,ap5 ts n _ P,rfl,fun _=>⟨_,rfl,rfl⟩⟩
  have g:n.op=11\/n.op=12\/n.op=13:=zOm;rw[if_neg P,if_pos g];obtain⟨S,R,T⟩:=qqL ok I g;refine⟨S,_,R,?_⟩;by_cases i:a.ar=2
  .rw [if_pos i]
   exact⟨decide_eq_true i,fun _=>⟨_,rfl,T i⟩⟩
  .rw [if_neg i]
   exact decide_eq_false i
 by_cases g2:n.op=6\/n.op=14\/n.op=7\/n.op=8\/n.op=32\/n.op=33\/n.op=9\/n.op=10
 .obtain ⟨a,b,rfl,rfl,I,U⟩:=h2 g2
  have ra:=I.ar;have rb:=U.ar;rw[apK2,if_neg j,if_neg o,if_neg t];by_cases g3:n.op=6\/n.op=14\/n.op=7\/n.op=8\/n.op=32\/n.op=33
  .rw [if_pos g3]
   obtain⟨S,R,T⟩:=qqK (ts:=ts) (n:=n) (a:=a) (b:=b) g3;refine⟨S,_,R,?_⟩;by_cases i:a.ar=b.ar
   .rw [if_pos i]
    exact⟨decide_eq_true i,fun hk=>⟨_,rfl,T i hk⟩⟩
   .rw [if_neg i]
    exact decide_eq_false i
  rw[if_neg g3];by_cases J:n.op=9
  .rw [if_pos J]
   by_cases i:1<=a.ar+b.ar-2/\a.ar+b.ar-2<=3
   .rw [if_pos i]
    refine⟨_,_,ap9 ts n _ _ (qt (zM a b)) J (by show 0<=a.ar/\a.ar<=1000;omega) (by show 0<=b.ar/\b.ar<=1000;omega) ?_,decide_eq_true i,fun _=>⟨_,rfl,rfl⟩⟩;rw[<-qd9 I U C i];exact uU _ _ (by show 0<=a.ar/\a.ar<=1000;omega) (by show 1<=b.ar/\b.ar<=1000;omega)
   .rw [if_neg i]
    exact⟨_,_,ap9 ts n _ _ _ J (by show 0<=a.ar/\a.ar<=1000;omega) (by show 0<=b.ar/\b.ar<=1000;omega) (uU _ _ (by show 0<=a.ar/\a.ar<=1000;omega) (by show 1<=b.ar/\b.ar<=1000;omega)),decide_eq_false i⟩
  have p:n.op=10:=zOm;rw[if_neg J,if_pos p];by_cases i:a.ar+b.ar<=3
  .rw [if_pos i]
   refine⟨_,_,ap10 ts n _ _ (qt (Zi a b)) p (by show 0<=a.ar/\a.ar<=1000;omega) (by show 0<=b.ar/\b.ar<=1000;omega) ?_,decide_eq_true i,fun _=>⟨_,rfl,rfl⟩⟩;rw[<-qp0 I U C i];exact qd5 _ _ (by show 0<=a.ar/\a.ar<=1000;omega) (by show 0<=b.ar/\b.ar<=1000;omega)
  .rw [if_neg i]
   exact⟨_,_,ap10 ts n _ _ _ p (by show 0<=a.ar/\a.ar<=1000;omega) (by show 0<=b.ar/\b.ar<=1000;omega) (qd5 _ _ (by show 0<=a.ar/\a.ar<=1000;omega) (by show 0<=b.ar/\b.ar<=1000;omega)),decide_eq_false i⟩
 refine⟨zR,true,apO ts n L j o t zOm zOm zOm zOm zOm zOm zOm zOm zOm zOm zOm zOm,?_⟩;rw[XI j o t zOm zOm zOm zOm zOm zOm zOm zOm zOm zOm zOm zOm];refine⟨rfl,fun hk=>?_⟩;have:=YN hk;omega
theorem qqN{ns}(o:ns<=4){q}(h:okKd ns q)(l:q.ar=1)(i):Qk i q=true↔∀ k,k<4->(qt q).2 k=true->(k:Int)=i:=by
 unfold Qk;rw[qY];constructor
 .intro p k P C
  rw[y7,l]at C;have:=p _ C.2;simpa[dig,pad] using this
 .intro p t I
  obtain⟨j,J,e⟩:=Jp h o I;rw[l]at J e;have g:j<4:=J;have:=p j g ((y7 q j).2 ⟨by rw[l];exact g,by rw[l,<-e];exact I⟩);rw[e];simp[dig,pad,this]
def ExR(c:Ck)(s:Scp)(inn:Bool)(n:Nd):Prop:=∃ S:RS,qj qg 209 [eVw c inn,lVr (envS s),eNd n] (.tup [eRS S,eDg (dgOf (exam c s inn n))])/\(kd n.op=101->∀ q,exam c s inn n = .ok (some q)->S=qt q)
theorem qeL(c inn):HF (eVw c inn):=HF.agg fun x g=>by
 simp only[qz,qO,or_false]at g;rcases g with rfl|rfl|rfl|rfl|rfl|rfl|rfl
 .exact Uz _
 .exact J4 _
 .exact Zo _
 .exact J3 _
 .exact VD _
 .exact HF.sc _
 .exact HF.sc _
theorem wkE(c inn l n):WKs [eVw c inn,lVr l,eNd n] [eVw c inn,lVr l,eNd n] := .zk (qeL c inn) (.zk (qqF _) (.zk (qE n) .nil))
theorem wU(d):HF (eDg d):=HF.agg fun x g=>by
 simp only[qz,qO,or_false]at g;rcases g with rfl|rfl<;>exact HF.sc _
theorem qeM{c nm p}(i:okCk c)(h:zC c nm=some p):(c.ts.sT.any fun p=>decide (p.name=nm))=true:=by
 obtain⟨_,j⟩:=ZW i h;unfold zC at h;rw[List.findIdx?_eq_some_iff_getElem]at h;obtain⟨l,g,_⟩:=h;simp only[List.getElem_take]at g;exact List.any_eq_true.2 ⟨_,qv j,g⟩
theorem qqO{nm}(h:zC (mkCk ts ts.sT.length) nm=none):(ts.sT.any fun p=>decide (p.name=nm))=false:=by
 unfold zC at h;rw[List.findIdx?_eq_none_iff]at h;rw[List.any_eq_false];intro p g;have:p∈ts.sT.take ts.sT.length:=by rw[za];exact g
 have:=h p this
 grind
theorem qqP{n}(i:WfN n)(h:n.op=47):∀ k,k∈n.sD->kd k.op=101:=by
 have g:=i.shape;have e:shp n.op n.sD.length=some (qM (min n.sD.length 401) 101):=by
  unfold shp;rw[zIn,zIn,zIn,zIn,zIn,zIn,zIn,if_pos h]
 rw[e]at g;simp only[qs]at g;intro k j;have:kd k.op∈n.sD.map fun k=>kd k.op:=qp.2 ⟨k,j,rfl⟩
 grind
theorem qqQ(c)(hc:okCk c)(s)(hs:ScOk c.ts.sS.length s)(n)(hw:WfN n)(b2:n.op=47)(ih:∀ k,k∈n.sD->ExR c s true k)(inn) :
  qj qg 257 [eVw c inn,lVr (envS s),eNd n] (eDg (dgOf (uX c s n))):=by
 generalize hR:uX c s n=R;unfold uX at hR;refine qSQ call257 func257 rfl { mt:=[3] } ?_;have bg:=hc.ts.np;have bh:=hw.len;have b3:=VC c hc n.name;have b4:=VC (mkCk c.ts c.ts.sT.length) (uD hc.ts (qn _)) n.name;have aq:∀ k:Int,WKs [eTS c.ts,aI k,aS n.name] [eTS c.ts,aI k,aS n.name]:=fun k => .zk (zB _) (.zs (.zs .nil))
 simp[go_sem];refine t8 b3 (aq _) ?_;cases a0:zC c n.name with
 |none =>
  rw[a0]at hR;simp[go_sem,idxO];refine t8 b4 (aq _) ?_;cases a4:zC (mkCk c.ts c.ts.sT.length) n.name with
  |none =>
   rw[qqO a4]at hR;subst hR;simp[go_sem,idxO,dgOf];exact .hf _ (wU (40,n.pos))
  |some p =>
   have ha:(c.ts.sT.any fun p=>decide (p.name=n.name))=true:=qeM (c:=mkCk c.ts c.ts.sT.length) (uD hc.ts (qn _)) a4;rw[ha]at hR;subst hR;have ad:¬(p:Int)<0:=zOm;simp[go_sem,idxO,dgOf,ad];exact .hf _ (wU (45,n.pos))
 |some p =>
  obtain⟨_,ae⟩:=ZW hc a0;rw[qeM hc a0,if_pos rfl,a0]at hR;simp only[qy ae]at hR;have ad:¬(p:Int)<0:=zOm;have bi:=hc.ts.pl _ (qv ae);simp[go_sem,idxO,ae,ad];generalize bj:c.ts.sT[p]=I at *
  by_cases a2:I.params.length=n.sD.length
  .rw [if_pos a2]at hR
   simp[go_sem,a2];have b5:=qqP hw b2;refine aP I.params.length (fun k U=>U.tm 1=lVr (envS s)/\U.tm 3 = .ptr 0 0/\U.tm 5 = .ip (cNd n)/\U.tm 6 = .ptr 1 0/\U.tm 8=lPm I.params/\U.tm 9=aI k/\U.mu[0]?=some (.arr (cVw c true))/\U.mu[1]?=some (.arr [aI 0,aI 0])/\yC c s n.pos (I.params.drop k) (n.sD.drop k)=R) ?_ ?_
   .simp [go_sem, *]
   rintro k U hk ⟨e1,e3,e5,e6,e8,e9,m0,m1,C⟩;have a9:1<U.mu.length:=(ql.1 m1).1;have J:∀(l:List Cell)(i:Nat),i<U.mu.length->(U.mu++l)[i]?=U.mu[i]?:=fun l i hi=>qL hi
   have a1:∀ c,(U.mu.set 1 c)[1]?=some c:=fun c=>qJ a9
   have af:∀ c (l:List Cell),((U.mu++l).set 1 c)[1]?=some c:=fun c l=>qJ zSo
   have ag:∀(l:List Cell)(h:0<(U.mu++l).length),(U.mu++l)[0] = .arr (cVw c true):=fun l h=>by
    grind
   have ah:∀(l:List Cell)(h:1<(U.mu++l).length),(U.mu++l)[1] = .arr [aI 0,aI 0]:=fun l h=>by
    grind
   by_cases au:k=I.params.length
   .subst au
    rw[yf,a2,yf]at C;simp only[yC]at C;subst C;simp[go_sem,e6,e8,e9,m1,a2,dgOf,a1];exact .hf _ (wU (0,0))
   have o:k<I.params.length:=zOm;have t:k<n.sD.length:=zOm;have w1:=zWk k;obtain⟨S,hi,hS⟩:=ih n.sD[k] (qv t);rw[ze o,ze t]at C;simp only[yC]at C;have b6:=jH hc (szN n.sD[k]) n.sD[k] s true;have av:=b5 n.sD[k] (qv t);have aw:=hw.kid (qv t);simp[go_sem,e8,e9,o];refine fG [0,1,2,3,4,5,6,7,8,9,10,11,12,13,14] [(7,1,[]),(11,2,[0,3,6]),(12,2,[0,3,6]),(13,1,[]),(14,1,[])] zKr zKr zSi ?_;simp[go_sem,e1,e3,e5,e9,m0,t];refine t8 hi (wkE c true _ _) ?_;cases hx:exam c s true n.sD[k] with
   |error e =>
    rw[hx]at C;subst C;have he:=Qw c (szN n.sD[k]) n.sD[k] s true e (qn _) hx;have b7:¬e.1=0:=zOm;simp[go_sem,e3,qw,ag,dgOf];rw[if_pos (zb _)];generalize hP:putCells _ 0 (aI S.1 :: hB S.2)=P;have ai:P=aI S.1 :: hB S.2:=by rw[<-hP];exact pc (aI 0) _ (fun _=>false) _
    subst ai;clear hP;simp[go_sem,e6,b7];simp[go_sem,ah,e6];exact .hf _ (wU e)
   |ok ko =>
    obtain⟨q,rfl,hq⟩:=b6 ko (qn _) aw hs hx av;have b8:=hS av q hx;subst b8;rw[hx]at C;simp only at C;have b9:=hc.ts.ns;have ax:(qt q).1=q.ar:=rfl;have ay:=fun h=>qqN b9 hq h I.params[k].2
    generalize qt q=Q at *
    simp[go_sem,e3,qw,ag,dgOf];rw[if_pos (zb _)];generalize hP:putCells _ 0 (aI Q.1 :: hB Q.2)=P;have ai:P=aI Q.1 :: hB Q.2:=by rw[<-hP];exact pc (aI 0) _ (fun _=>false) _
    subst ai;clear hP;by_cases a3:q.ar=1
    .rw [if_pos a3]at C
     have a5:Q.1=1:=ax.trans a3;simp[go_sem,qw,a5];have be:I.params[k].2<4/\0<=I.params[k].2:=by grind
     refine aP 4 (fun j g=>∃ b,2<=b/\g.tm 10 = .ptr b 0/\g.mu[b]?=some (.arr (aI 1 :: hB Q.2))/\g.tm 1=lVr (envS s)/\g.tm 3 = .ptr 0 0/\g.tm 5 = .ip (cNd n)/\g.tm 6 = .ptr 1 0/\g.tm 8=lPm I.params/\g.tm 9=aI k/\g.tm 12=aI j/\g.mu[0]?=some (.arr (cVw c true))/\g.mu[1]?=some (.arr [aI 0,aI 0]) /\
      ∀ i:Nat,i<j->Q.2 i=true->(i:Int)=I.params[k].2) ?_ ?_
     .exact ⟨U.mu.length,zOm,zSi,zSi,zS1 e1,zS1 e3,zS1 e5,zS1 e6,zS1 e8,zS1 e9,zSi,by simp only[qK];rw[J _ _ zOm];exact m0,by simp only[qK];rw[J _ _ zOm];exact m1,fun i hi=>zOm⟩
     .clear e1 e3 e5 e6 e8 e9 m0 m1 J a1 af ag ah a9
      rintro j st2 hj ⟨b,hb,a6,mb,e1,e3,e5,e6,e8,e9,aa,m0,m1,a7⟩;have a9:1<st2.mu.length:=(ql.1 m1).1;have a1:∀ c,(st2.mu.set 1 c)[1]?=some c:=fun c=>qJ a9
      by_cases aj:j<4
      .have ak:(j:Int)<4:=by omega
       have az:j<64:=zOm;have T:(j:Int)<64:=zOm;have wj:=zWk j;have a8:=d1 (aI 1) Q.2 j az;have al:1+j<=64:=zOm;by_cases hQ:Q.2 j=true
       .rw [hQ]at a8
        by_cases ab:(j:Int)=I.params[k].2
        .have bb:=eq_true ab
         simp[go_sem,a6,mb,e8,e9,aa,ak,T,a8,al,qw,o,bb,wj];refine⟨aj,aM ⟨b,hb,zS1 a6,zS1 mb,zS1 e1,zS1 e3,zS1 e5,zS1 e6,zS1 e8,zS1 e9,zSi,zS1 m0,zS1 m1,fun i hi h=>?_⟩⟩;by_cases an:i=j
         .subst an;exact ab
         .exact a7 i zOm h
        .have b0:¬Qk I.params[k].2 q=true:=fun h=>ab ((ay a3).1 h j aj hQ)
         rw[if_neg b0]at C;subst C;simp[go_sem,a6,mb,e5,e6,e8,e9,aa,ak,T,a8,al,qw,o,ab,m1,a1];exact .hf _ (wU (43,n.pos))
       .have hQ:Q.2 j=false:=by simpa using hQ
        rw[hQ]at a8;simp[go_sem,a6,mb,aa,ak,T,a8,al,qw,wj];refine⟨aj,aM ⟨b,hb,zS1 a6,zS1 mb,zS1 e1,zS1 e3,zS1 e5,zS1 e6,zS1 e8,zS1 e9,zSi,zS1 m0,zS1 m1,fun i hi h=>?_⟩⟩;by_cases an:i=j
        .subst an;rw[hQ]at h;cases h
        .exact a7 i zOm h
      .have bc:j=4:=by omega
       subst bc;have ao:Qk I.params[k].2 q=true:=(ay a3).2 fun i hi h=>a7 i hi h
       rw[if_pos ao]at C;simp[go_sem,e9,aa,w1];exact⟨o,aM ⟨zS1 e1,zS1 e3,zS1 e5,zS1 e6,zS1 e8,zSi,zS1 m0,zS1 m1,C⟩⟩
    .rw [if_neg a3]at C
     subst C;have a5:¬Q.1=1:=fun e=>a3 (ax.symm.trans e)
     simp[go_sem,e5,qw,a5,ah,e6];exact .hf _ (wU (42,n.pos))
  .rw [if_neg a2]at hR
   subst hR;have b1:¬n.sD.length=I.params.length:=fun e=>a2 e.symm
   simp[go_sem,b1,dgOf];exact .hf _ (wU (45,n.pos))
end
end QO
namespace QR
open Y9 Y10 Y1 Y2 Y12 P1 P2 QE QF QJ QL QN PG QO
theorem kl{n}(i:WfN n)(h:n.op=15\/n.op=45\/n.op=46):∃ a f,n.sD=[a,f]/\kd a.op=101:=by
 have g:=i.shape;unfold shp at g;rw[zIn,zIn,zIn,if_pos zOm]at g;simp only[qs]at g
 match j:n.sD,g with
 | [a,f],g =>
  grind
 | [],g=>simp at g
 | [_],g=>simp at g
 |_ :: _ :: _ :: _,g=>simp at g
theorem five{C:Type}{l}{a b c d e:C}(g:l[0]?=some a)(i:l[1]?=some b)(j:l[2]?=some c)(o:l[3]?=some d)(p:l[4]?=some e):∃ r,l=a :: b :: c :: d :: e :: r:=by
 match l,g,i,j,o,p with
 |_ :: _ :: _ :: _ :: _ :: r,g,i,j,o,p =>
  simp_all
def VF:Res->RS
 | .ok (some k)=>if k.ar=1 then qt k else zR
 |_=>zR
theorem qqR(s d):FL (.tup [eRS s,eDg d]):=FL.tup fun x i=>by
 rcases qz.1 i with rfl|i
 .exact FL.agg fun c g=>by
   rcases qz.1 g with rfl|g
   .exact FL.sc _
   .obtain ⟨j,_,rfl⟩:=qp.1 g
    exact FL.sc _
 .rw [qX]at i;subst i
  exact FL.agg fun c g=>by
   rcases qz.1 g with rfl|g
   .exact FL.sc _
   .rw [qX]at g;subst g;exact FL.sc _
theorem qqS(c)(hc:okCk c)(s)(hs:ScOk c.ts.sS.length s)(az:s.length<=90000)(n a g)(hw:WfN n)(hb:n.op=15\/n.op=45\/n.op=46)(I:n.sD=[a,g])(a7:kd a.op=101)(inn)
  (ag:ExR c s (inn||decide (n.op=15)) a) (ah:∀ k,okKd c.ts.sS.length k->k.ar=1->ExR c ((n.name,k) :: s) (inn||decide (n.op=15)) g) :
  qj qg 258 [eVw c inn,lVr (envS s),eNd n] (.tup [eRS (VF (exam c s (inn||decide (n.op=15)) a)),eDg (dgOf (jj c s (inn||decide (n.op=15)) n.name n.pos n.sD))]):=by
 have wa:=hw.kid (k:=a) (by rw[I];simp);obtain⟨S,ca,hS⟩:=ag;have ai:=jH hc (szN a) a s (inn||decide (n.op=15));have a8:=Qw c (szN a) a s (inn||decide (n.op=15));rw[I];have w1:=wkE c (inn||decide (n.op=15)) (envS s) a;have aj:n.op=15->(inn||decide (n.op=15))=true:=fun h=>zP1 h
 have ak:¬n.op=15->(inn||decide (n.op=15))=inn:=fun h=>zP1 h
 generalize (inn||decide (n.op=15))=B at *
 generalize hE:dgOf (jj c s B n.name n.pos [a,g])=E;generalize hX:exam c s B a=X at *
 have a9:∀ k,okKd c.ts.sS.length k->k.ar=1->X = .ok (some k)->∃ S2,qj qg 209 [eVw c B,lVr (envS ((n.name,k) :: s)),eNd g] (.tup [eRS S2,eDg E]):=fun k hk t al=>by
  obtain⟨S2,cg,_⟩:=ah k hk t;refine⟨S2,?_⟩;have a1:E=dgOf (exam c ((n.name,k) :: s) B g):=by
   rw[<-hE];simp only[jj,zq];rw[hX,al];simp only;rw[if_pos t];cases exam c ((n.name,k) :: s) B g<;>rfl
  grind
 refine qSQ call258 func258 rfl { mt:=[3] } ?_;by_cases a3:n.op=15
 case' pos =>
  have a4:=aj a3;subst a4
 case' neg =>
  have a4:=ak a3;subst a4
 all_goals
  simp[go_sem,a3];refine fG [0,1,2,3,4,5,6,7,8,9,10,11,12,13] [(6,1,[]),(10,2,[0,3,5]),(11,2,[0,3,5]),(12,1,[]),(13,1,[])] zKr zKr zSi ?_;simp[go_sem,I];refine t8 ca w1 ?_;simp[go_sem,qw,I];rw[if_pos (zb _)];generalize hP:putCells _ 0 (aI S.1 :: hB S.2)=P;have R:P=aI S.1 :: hB S.2:=by rw[<-hP];exact pc (aI 0) _ (fun _=>false) _
  subst R;clear hP;simp[go_sem]
 all_goals
  cases X with
  |error e =>
   have he:=a8 e (qn _) rfl;have an:¬e.1=0:=zOm;have a1:E=e:=by rw[<-hE];simp only[jj];rw[hX];rfl
   subst a1;clear hE;simp[go_sem,dgOf,an];refine fG [0,1,2,3] [(2,1,[1]),(3,1,[])] zKr zKr zSi ?_;simp[go_sem];exact .hf _ (vH zR E)
  |ok ko =>
   obtain⟨q,rfl,hq⟩:=ai ko (qn _) wa hs rfl a7;have ao:=hS a7 q rfl;subst ao;have aa:(qt q).1=q.ar:=rfl;by_cases t:q.ar=1
   .have T:(qt q).1=1:=aa.trans t
    obtain⟨S2,cg⟩:=a9 q hq t rfl;have a5:VF (.ok (some q))=qt q:=if_pos t;rw[a5];have ab:envS ((n.name,q) :: s)=envS s++[(n.name,qt q)]:=by simp[envS]
    rw[ab]at cg;generalize qt q=Q at *
    obtain⟨qa,U⟩:=Q;have a6:qa=1:=T;subst a6;simp[go_sem,dgOf];refine fG [0,1,2,4,5,6,7,8,10,11,12,13,3,9,14,15,16,17,18,19,20,21] [(3,1,[0,5,6,11,13]),(9,1,[0,11,13]),(14,1,[]),(18,2,[0,5,6,11,13]),(19,2,[0,5,6,11,13]),(20,1,[]),(21,1,[])] zKr zKr zSi ?_;simp[go_sem,qw,tk];rw[if_pos (zb _)];generalize hC:putCells _ 1 _=C;have aq:C=cVr (n.name,(1,U)):=by rw[<-hC];exact pcV n.name (1,U)
    subst aq;clear hC;have au:(cVr (n.name,((1:Int),U))).length=66:=by simp[qw]
    have av:=kN (n.name,((1:Int),U));generalize hV:cVr (n.name,((1:Int),U))=V at *
    simp[go_sem,au];rw[if_pos av];simp[go_sem,I];refine kP (lo:=5) (xs:=[]) (ys:=envS s) (OwnF.nil zSp) (by simp[qA]) (by simp[Wi];omega) fun b0 m1 aw a0=>?_
    have k0:=a0 0 zOm;have k1:=a0 1 zOm;have k2:=a0 2 zOm;have k3:=a0 3 zOm;have k4:=a0 4 zOm;simp at k0 k1 k2 k3 k4;simp[go_sem,qw,tk,I,k0,k3];refine kP (xs:=[]++envS s) (ys:=[(n.name,(1,U))]) aw (by simp[qA,hV]) (by simp[Wi];omega) fun b1 m2 a2 J=>?_
    rw[y8]at a2;have ax:=a2.2.2;replace k0:=(J 0 zOm).trans k0;replace k1:=(J 1 zOm).trans k1;replace k2:=(J 2 zOm).trans k2;replace k3:=(J 3 zOm).trans k3;replace k4:=(J 4 zOm).trans k4;have o:∀(l:List Cell)(i:Nat),i<m2.length->(m2++l)[i]?=m2[i]?:=fun l i hi=>qL hi
    have g0:=(ql.1 k0).2;have g1:=(ql.1 k1).2;have g2:=(ql.1 k2).2;have g3:=(ql.1 k3).2;simp[go_sem,I,k0];refine fX (args':=[eVw c _,lVr (envS s++[(n.name,(1,U))]),eNd g]) cg ⟨.hf _ (qeL c _),rdVr a2,.hf _ (qE g),trivial⟩ (qqR S2 _) ?_;have p0:=fun l=>(o l 0 zOm).trans k0
    have p1:=fun l=>(o l 1 zOm).trans k1
    have p2:=fun l=>(o l 2 zOm).trans k2
    have p3:=fun l=>(o l 3 zOm).trans k3
    have p4:=fun l=>(o l 4 zOm).trans k4
    have ad:0<m2.length:=zOm;have ae:3<m2.length:=zOm;simp[go_sem,qw,tk,I,g0,g3,ad,ae,p3];rw[if_pos (zb _)];generalize hP:putCells _ 0 (cRS S2)=P;have R:P=cRS S2:=by rw[<-hP];exact pc (aI 0) _ (fun _=>false) _
    subst R;clear hP;simp[go_sem];obtain⟨rr,af⟩:=five k0 k1 k2 k3 k4;have b2:m2.length=rr.length+5:=by rw[af];rfl
    clear g0 g1 g2 g3 p0 p1 p2 p3 p4 o a2 J k0 k1 k2 k3 k4 ax ad ae;refine fG [0,1,2,3] [(2,1,[1]),(3,1,[])] zKr zKr zSi ?_;simp[go_sem,qw,tk,af];rw[if_pos (zb _)];generalize hP:putCells _ 0 (aI 1 :: hB U)=P;have R:P=aI 1 :: hB U:=by rw[<-hP];exact pc (aI 0) (aI 1) (fun _=>false) U
    subst R;clear hP;simp[go_sem,qw,tk];exact .hf _ (vH (1,U) E)
   .have T:¬(qt q).1=1:=fun e=>t (aa.symm.trans e)
    have a5:VF (.ok (some q))=zR:=if_neg t;rw[a5];have a1:E=(42,n.pos):=by
     rw[<-hE];simp only[jj];rw[hX];simp only;rw[if_neg t];rfl
    subst a1;clear hE;generalize qt q=Q at *
    simp[go_sem,dgOf,T];refine fG [0,1,2,3,4,5] [(4,1,[2]),(5,1,[])] zKr zKr zSi ?_;simp[go_sem];exact .hf _ (vH zR (42,n.pos))
theorem qqT(ts)(ok:okTS ts)(n l)(t:n.op≠1)(o:n.op≠15)
  (C:n.op=5\/n.op=11\/n.op=12\/n.op=13->∃ a,l=[some a]/\okKd ts.sS.length a)
  (I:n.op=6\/n.op=14\/n.op=7\/n.op=8\/n.op=32\/n.op=33\/n.op=9\/n.op=10->∃ a b,l=[some a,some b]/\okKd ts.sS.length a/\okKd ts.sS.length b) :
  ∃ S b,(∀ L,((n.op=5\/n.op=11\/n.op=12\/n.op=13)\/(n.op=6\/n.op=14\/n.op=7\/n.op=8\/n.op=32\/n.op=33\/n.op=9\/n.op=10)->L=l.map setO)->prC ts n L S b)/\ApE n.op (zE ts.sS.length n.op n.n n.pos l) S b:=by
 by_cases R:(n.op=5\/n.op=11\/n.op=12\/n.op=13)\/(n.op=6\/n.op=14\/n.op=7\/n.op=8\/n.op=32\/n.op=33\/n.op=9\/n.op=10)
 .obtain ⟨S,b,c,a⟩:=qqM ts ok n l (l.map setO) t o (fun h=>by obtain⟨a,rfl,p⟩:=C h;exact⟨a,rfl,rfl,p⟩) (fun h=>by obtain⟨a,b,rfl,p,J⟩:=I h;exact⟨a,b,rfl,rfl,p,J⟩)
  grind
 by_cases g:n.op=2
 .refine ⟨qt ⟨n.n,[]⟩,true,fun L _=>qeK (qeH n.n) (ap2 ts n L g),?_⟩
  unfold zE;rw[if_pos g];exact⟨rfl,fun _=>⟨_,rfl,rfl⟩⟩
 by_cases i:n.op=3
 .refine ⟨_,true,fun L _=>ap3 ts ok n L i,?_⟩
  unfold zE;rw[if_neg g,if_pos i];exact⟨rfl,fun _=>⟨_,rfl,rfl⟩⟩
 by_cases j:n.op=4
 .refine ⟨_,true,fun L _=>ap4 ts ok n L j,?_⟩
  unfold zE;rw[if_neg g,if_neg i,if_pos j];exact⟨rfl,fun _=>⟨_,rfl,rfl⟩⟩
 refine⟨zR,true,fun L _=>apO ts n L g i j zOm zOm zOm zOm zOm zOm zOm zOm zOm zOm zOm zOm,?_⟩;rw[XI g i j zOm zOm zOm zOm zOm zOm zOm zOm zOm zOm zOm zOm];refine⟨rfl,fun P=>?_⟩;have:=YN P;omega
def resS:Res->RS
 | .ok (some k)=>qt k
 |_=>zR
theorem qqU(R):endR zR R = .tup [eRS (resS R),eDg (dgOf R)]:=by
 cases R with
 |error e=>rfl
 |ok k=>cases k<;>rfl
end QR
namespace QS
open YZ YF Y9 Y10 Y1 Y2 Y13 P1 P2 QE QF QI QJ QL QN PG QO QR
theorem Wj(c op nm):jc c op nm=(yX op||(decide (op=47)&&tpB c nm)):=rfl
theorem qqV{ns op n pos l e}(h:zE ns op n pos l = .error e):e=(42,pos):=by
 unfold zE at h
 repeat' split at h
 all_goals grind
theorem wkTP(c:Ck)(nm):WKs [eTS c.ts,lBo c.timed,aI c.calls,aS nm] [eTS c.ts,lBo c.timed,aI c.calls,aS nm] := .zk (zB _) (.zk (VD _) (.zs (.zs .nil)))
theorem wk1I(k):WKs [aI k] [aI k] := .zs .nil
theorem fl_sb(s b):FL (.tup [eRS s,aB b]):=FL.tup fun x i=>by
 rcases qz.1 i with rfl|i
 .exact FL.agg fun c g=>by
   rcases qz.1 g with rfl|g
   .exact FL.sc _
   .obtain ⟨j,_,rfl⟩:=qp.1 g
    exact FL.sc _
 grind [qX,FL.sc]
theorem qqW(c)(i:okCk c)(s n)(g:jc c n.op n.name=true):ExR c s true n:=by
 refine⟨zR,?_,fun _ q h=>?_⟩
 case refine_2=>simp_all[vy,if_pos]
 have j:exam c s true n = .error (46,n.pos):=by simp_all[vy,if_pos]
 rw[j];rw[Wj]at g;refine qSQ call209 func209 rfl { mt:=[3] } ?_;have l:=Jr n.op;have o:=Js c i n.name;simp[go_sem];refine t8 l (wk1I _) ?_;cases p:yX n.op with
 |true =>
  simp[go_sem];refine fG [0,1,2,3,4,5] [(4,1,[2]),(5,1,[])] zKr zKr zSi ?_;simp[go_sem,dgOf];exact .hf _ (vH zR (46,n.pos))
 |false =>
  rw[p,Bool.false_or,qD]at g;obtain⟨h47,hB⟩:=g;have h47:n.op=47:=zUs h47;simp[go_sem,h47];refine t8 o (wkTP c n.name) ?_;rw[hB];simp[go_sem];refine fG [0,1,2,3,4,5] [(4,1,[2]),(5,1,[])] zKr zKr zSi ?_;simp[go_sem,dgOf];exact .hf _ (vH zR (46,n.pos))
theorem qqX(c)(l:okCk c)(s)(g:s.length<=100000)(inn n)(i:n.op=1):ExR c s inn n:=by
 have o:exam c s inn n=yQ c s n.name n.pos:=by
  rw[vy,Wj,i,show yX 1=false from rfl];simp
 refine⟨resS (yQ c s n.name n.pos),?_,fun _ q h=>by rw[o]at h;rw[h];rfl⟩;rw[o];have p:=wO c l inn s n g;rw[qqU]at p;generalize resS (yQ c s n.name n.pos)=S at *
 generalize dgOf (yQ c s n.name n.pos)=D at *
 refine qSQ call209 func209 rfl { mt:=[3] } ?_;have t:=Jr n.op;have R:=Js c l n.name;have I:yX n.op=false:=by rw[i];rfl
 rw[I]at t;have J:=wkE c inn (envS s) n;cases inn
 case' true =>
  simp[go_sem];refine t8 t (wk1I _) ?_
 all_goals
  simp[go_sem,i];refine t8 p J ?_;simp[go_sem,qw];rw[if_pos (zb _)];generalize C:putCells _ 0 (aI S.1 :: hB S.2)=P;have j:P=aI S.1 :: hB S.2:=by rw[<-C];exact pc (aI 0) _ (fun _=>false) _
  subst j;clear C;simp[go_sem,qw,QE.tk];exact .hf _ (vH S D)
theorem qqY(c)(i:okCk c)(s)(t:ScOk c.ts.sS.length s)(inn n)(C:WfN n)(h47:n.op=47)(g:(inn&&jc c n.op n.name)=false)(I:∀ k,k∈n.sD->ExR c s true k):ExR c s inn n:=by
 have J:exam c s inn n=uX c s n:=by
  rw[vy,g,if_neg zSp,zIn,if_pos h47];rfl
 have P:=qqQ c i s t n C h47 I inn;refine⟨zR,?_,fun j=>by rw[h47]at j;exact absurd j zDe⟩;rw[J];generalize dgOf (uX c s n)=D at *
 refine qSQ call209 func209 rfl { mt:=[3] } ?_;have l:=Jr n.op;have o:=Js c i n.name;have p:yX n.op=false:=by rw[h47];rfl
 rw[p]at l;have R:=wkE c inn (envS s) n;cases inn
 case' true =>
  rw[Bool.true_and,Wj,p,h47]at g;have hB:tpB c n.name=false:=zUs g;rw[hB]at o;simp[go_sem];refine t8 l (wk1I _) ?_;simp[go_sem,h47];refine t8 o (wkTP c n.name) ?_
 all_goals
  simp[go_sem,h47];refine fW P R ?_;exact .hf _ (vH zR D)
theorem qq0(c)(R:okCk c)(s)(o:ScOk c.ts.sS.length s)(p:s.length<=90000)(inn n)(T:WfN n)(l:n.op=15\/n.op=45\/n.op=46)(ht:(inn&&jc c n.op n.name)=false)(U:∀ k,k∈n.sD->∀ s',ScOk c.ts.sS.length s'->s'.length<=s.length+1->∀ inn,ExR c s' inn k):ExR c s inn n:=by
 have hx:exam c s inn n=jj c s (inn||decide (n.op=15)) n.name n.pos n.sD:=by
  rw[vy,ht,if_neg zSp,zIn,zIn,if_pos l]
 obtain⟨a,g,i,t⟩:=kl T l;have cb:=qqS c R s o p n a g T l i t inn (U a (by rw[i];simp) s o zOm _) (fun k hk j=>U g (by rw[i];simp) _ (fun v C=>by
  rcases qz.1 C with rfl|C
  .grind
  .exact o v C) zSp _)
 refine⟨VF (exam c s (inn||decide (n.op=15)) a),?_,fun _ q h=>?_⟩
 case refine_2 =>
  rw[hx,i]at h;simp only[jj]at h;split at h
  .cases h
  .cases h
  .rename_i k hk
   split at h
   .rename_i j
    split at h
    .cases h
    .cases h
     rw[hk];exact if_pos j
   .cases h
 rw[hx];generalize VF (exam c s (inn||decide (n.op=15)) a)=S at *
 generalize dgOf (jj c s (inn||decide (n.op=15)) n.name n.pos n.sD)=D at *
 refine qSQ call209 func209 rfl { mt:=[3] } ?_;have I:=Jr n.op;have cp:=Js c R n.name;have h47:¬n.op=47:=zOm;have hT:yX n.op=false:=by grind [yX]
 rw[hT]at I;have wn:=wkE c inn (envS s) n;rcases l with h|h|h
 all_goals
  rw[h]at I;cases inn
 all_goals
  simp[go_sem,h]
  try (refine t8 I (wk1I _) ?_)
  try simp[go_sem,h]
  refine t8 cb wn ?_;simp[go_sem,qw];rw[if_pos (zb _)];generalize hP:putCells _ 0 (aI S.1 :: hB S.2)=P;have J:P=aI S.1 :: hB S.2:=by rw[<-hP];exact pc (aI 0) _ (fun _=>false) _
  subst J;clear hP;simp[go_sem,qw,QE.tk];exact .hf _ (vH S D)
def seqL(X:Nd->Res):List Nd->Except Dg (List (Option Kd))
 | [] => .ok []
 |k :: ks=>match X k with
  | .error e => .error e
  | .ok a=>match seqL X ks with
   | .error e => .error e
   | .ok l => .ok (a :: l)
theorem qeN(c s B):∀ ks,zq c s B ks=seqL (exam c s B) ks
 | []=>by simp only[zq,seqL]
 |k :: ks=>by simp only[zq,seqL];rw[qeN c s B ks];cases exam c s B k with
  |error e=>rfl
  |ok a=>cases seqL (exam c s B) ks<;>rfl
theorem kS{C:Type}{l}{a b c:C}(g:l[0]?=some a)(i:l[1]?=some b)(j:l[2]?=some c):∃ r,l=a :: b :: c :: r:=by
 match l,g,i,j with
 |_ :: _ :: _ :: r,g,i,j =>
  grind
theorem qq1{n}(j:WfN n)(h:(n.op=5\/n.op=11\/n.op=12\/n.op=13)\/(n.op=6\/n.op=14\/n.op=7\/n.op=8\/n.op=32\/n.op=33\/n.op=9\/n.op=10)):∀ x,x∈n.sD->kd x.op=101:=by
 have g:=j.shape;intro x l;have i:kd x.op∈n.sD.map fun k=>kd k.op:=qp.2 ⟨x,l,rfl⟩
 rcases h with h|h
 .unfold shp at g
  rw[zIn,if_pos zOm]at g
  grind
 .unfold shp at g
  rw[zIn,zIn,if_pos zOm]at g;simp only[qs]at g;rw[<-g]at i;simpa using i
set_option maxHeartbeats 2000000 in
theorem ex_t(c)(hc:okCk c)(s n inn B X S D)(h1:¬n.op=1)(h47:¬n.op=47)(hb:¬(n.op=15\/n.op=45\/n.op=46))(hw:WfN n)(ax:n.sD.length<=401)(hT:inn=true->yX n.op=false)(a7:n.op=12->B=true)(a8:n.op=13->B=true)(ah:¬n.op=12->¬n.op=13->B=inn)
  (ai:∀ k,k∈n.sD->∃ S,qj qg 209 [eVw c B,lVr (envS s),eNd k] (.tup [eRS S,eDg (dgOf (X k))])/\(kd k.op=101->∀ q,X k = .ok (some q)->S=qt q))
  (a9:∀ k a,k∈n.sD->X k = .ok a->kd k.op=101->∃ q,a=some q/\okKd c.ts.sS.length q)
  (a3:∀ k e,X k = .error e->40<=e.1)
  (aj:∀ e,seqL X n.sD = .error e->S=zR/\D=e)
  (ak:∀ l,seqL X n.sD = .ok l->∃ S' b,(∀ L,((n.op=5\/n.op=11\/n.op=12\/n.op=13)\/(n.op=6\/n.op=14\/n.op=7\/n.op=8\/n.op=32\/n.op=33\/n.op=9\/n.op=10)->L=l.map setO)->prC c.ts n L S' b)/\(b=true->S=S'/\D=(0,0))/\(b=false->S=zR/\D=(42,n.pos))) :
  qj qg 209 [eVw c inn,lVr (envS s),eNd n] (.tup [eRS S,eDg D]):=by
 simp only[not_or]at hb;obtain⟨b1,b2,b3⟩:=hb;refine qSQ call209 func209 rfl { mt:=[3] } ?_;have ct:=Jr n.op;have cp:=Js c hc n.name;cases inn
 all_goals first
  | (rw[hT rfl]at ct;simp[go_sem];refine t8 ct (wk1I _) ?_)
  |skip
 all_goals simp[go_sem,h1,h47,b1,b2,b3]
 all_goals rcases (show n.op=12\/(¬n.op=12/\n.op=13)\/(¬n.op=12/\¬n.op=13) by omega) with I|⟨I,a1⟩|⟨I,a1⟩
 all_goals first|simp[go_sem,I,a1] | simp[go_sem,I]
 all_goals first|have a4:=a7 I|have a4:=a8 a1|have a4:=ah I a1
 all_goals
  refine aP n.sD.length (fun k U=>∃(o:List (Option Kd)) (L:List RS),o.length=k/\L.length=k/\U.tm 1=lVr (envS s)/\U.tm 3 = .ptr 0 0/\U.tm 5 = .ip (cNd n)/\U.tm 6 = .ptr 1 0/\U.tm 7 = .ptr 2 0/\U.tm 9=aI k/\U.mu[0]?=some (.arr (cVw c B))/\U.mu[1]?=some (.arr (aI 0 :: hB fun _=>false))/\U.mu[2]?=some (.arr [aI 0,aI 0])/\OwnF 3 U.mu 65 (U.tm 8) (L.map cRS)/\(∀(i:Nat) x,n.sD[i]?=some x->i<k->kd x.op=101->∃ q,o[i]?=some (some q)/\L[i]?=some (qt q))/\seqL X n.sD=(match seqL X (n.sD.drop k) with | .error e => .error e | .ok l => .ok (o++l))) ?_ ?_
  .refine ⟨[],[],rfl,rfl,zSi,zSi,zSi,zSi,zSi,zSi,by rw[a4];simp[go_sem],by simp[go_sem];rfl,zSi,by simp_all[go_sem,OwnF.nil],fun i x _ h=>absurd h zOm,?_⟩
   grind
  rintro k U hk ⟨o,L,aa,ab,e1,e3,e5,e6,e7,e9,m0,m1,m2,ho,a2,J⟩;generalize h8:U.tm 8=t at *
  by_cases C:k<n.sD.length
  .have w1:=zWk k
   obtain⟨Sk,ck,al⟩:=ai n.sD[k] (qv C);rw[ze C]at J;simp only[seqL]at J;simp[go_sem,e5,e9,C];refine fG [0,1,2,3,4,5,6,7,8,9,10,11,12,13,14] [(7,1,[]),(11,2,[0,3,6]),(12,2,[0,3,6]),(13,1,[]),(14,1,[])] zKr zKr zSi ?_;have ad:2<U.mu.length:=(ql.1 m2).1;have g:∀(l:List Cell)(i:Nat),i<U.mu.length->(U.mu++l)[i]?=U.mu[i]?:=fun l i R=>qL R
   have p0:=fun l=>(g l 0 zOm).trans m0
   have p1:=fun l=>(g l 1 zOm).trans m1
   have p2:=fun l=>(g l 2 zOm).trans m2
   have g0:=(ql.1 m0).2;have g1:=(ql.1 m1).2;have g2:=(ql.1 m2).2;have a5:0<U.mu.length:=zOm;have an:1<U.mu.length:=zOm;simp[go_sem,e1,e3,e5,e9,C,m0];refine t8 ck (wkE c _ _ _) ?_;cases hx:X n.sD[k] with
   |error e =>
    have he:=a3 _ _ hx;have ao:¬e.1=0:=zOm;rw[hx]at J;have J:seqL X n.sD = .error e:=J;obtain⟨aq,ar⟩:=aj e J;rw[aq,ar];simp[go_sem,e3,g0,a5,qw,dgOf];rw[if_pos (zb _)];generalize hP:putCells _ 0 (cRS Sk)=P;have T:P=cRS Sk:=by rw[<-hP];exact pc (aI 0) _ (fun _=>false) _
    subst T;clear hP;simp[go_sem,ao];refine fG [0,1,2,3] [(2,1,[1]),(3,1,[])] zKr zKr zSi ?_;simp[go_sem,e6,e7,a5,qw,g1,g2,an,ad];exact .hf _ (vH zR e)
   |ok a =>
    rw[hx]at J;simp only at J;simp[go_sem,e3,g0,a5,qw,dgOf];rw[if_pos (zb _)];generalize hP:putCells _ 0 (cRS Sk)=P;have T:P=cRS Sk:=by rw[<-hP];exact pc (aI 0) _ (fun _=>false) _
    subst T;clear hP;simp[go_sem,h8,qw,QE.tk];rw[if_pos (zb _)];simp[go_sem];refine appRS (lo:=3) (xs:=L) (ys:=[Sk]) ⟨by simpa using Vb (Vb ho.1 _) _,ho.2.1,by grind⟩ (by simp[qA]) zSo fun ay m' au a6=>?_
    simp[go_sem,e9,C,w1];refine aM ⟨o++[a],L++[Sk],zP1 aa,zP1 ab,zS1 e1,zS1 e3,zS1 e5,zS1 e6,by simp[go_sem,e7],zSi,?_,?_,?_,zVs au,fun i x R az a0=>?_,?_⟩
    .simp only[qK];exact(a6 0 zOm).trans (p0 _)
    .simp only[qK];exact(a6 1 zOm).trans (p1 _)
    .simp only[qK];exact(a6 2 zOm).trans (p2 _)
    .by_cases ae:i=k
     .subst ae
      rw[qy C]at R;cases R;obtain⟨q,rfl,_⟩:=a9 _ a (qv C) hx a0;refine⟨q,?_,?_⟩
      .rw [zZ zOm,aa];simp
      .rw [zZ zOm,ab];simp[al a0 q hx]
     .obtain ⟨q,q1,q2⟩:=a2 i x R zOm a0
      exact⟨q,by rw[zGa];exact q1,by rw[zGa];exact q2⟩
    grind
  .have af:k=n.sD.length:=by omega
   subst af;rw[yf]at J;have J:seqL X n.sD = .ok o:=by rw[J];simp only[seqL,ye]
   obtain⟨S',b,q1,q2,q3⟩:=ak o J;have hL:((n.op=5\/n.op=11\/n.op=12\/n.op=13)\/(n.op=6\/n.op=14\/n.op=7\/n.op=8\/n.op=32\/n.op=33\/n.op=9\/n.op=10))->L=o.map setO:=fun h=>by
    have a0:∀ x,x∈n.sD->kd x.op=101:=fun x hx=>qq1 hw h x hx
    refine List.ext_getElem? fun i=>?_
    by_cases R:i<n.sD.length
    .obtain ⟨q,e1,e2⟩:=a2 i n.sD[i] (zP1 R) R (a0 _ (qv R))
     rw[e2,List.getElem?_map,e1];rfl
    .rw [w6 zOm,w6 zSo]
   have hp:=q1 L hL;unfold prC at hp;have ad:2<U.mu.length:=(ql.1 m2).1;have g:∀(l:List Cell)(i:Nat),i<U.mu.length->(U.mu++l)[i]?=U.mu[i]?:=fun l i R=>qL R
   obtain⟨rr,ag⟩:=kS m0 m1 m2;simp[go_sem,e3,e5,e9,h8,m0];refine fX (args':=[eTS c.ts,eNd n,lRS L]) hp ⟨.hf _ (zB _),.hf _ (qE n),rdRS ho,trivial⟩ (fl_sb S' b) ?_;have b0:U.mu.length=rr.length+3:=by rw[ag];rfl
   clear m0 m1 m2 g ho;simp[go_sem,ag,qw];rw[if_pos (zb _)];generalize hP:putCells _ 0 (cRS S')=P;have T:P=cRS S':=by rw[<-hP];exact pc (aI 0) _ (fun _=>false) _
   subst T;clear hP;cases b with
   |true =>
    obtain⟨rfl,rfl⟩:=q2 rfl;simp[go_sem,e6,qw,QE.tk,pc];rw[if_pos (zb _)];simp[go_sem,e6,e7,qw,QE.tk];exact .hf _ (vH S (0,0))
   |false =>
    obtain⟨rfl,rfl⟩:=q3 rfl;simp[go_sem];refine fG [0,1,2,3,4,5] [(4,1,[2]),(5,1,[])] zKr zKr zSi ?_;simp[go_sem,e5,e6,e7,qw];exact .hf _ (vH zR (42,n.pos))
theorem qq2(c)(p:okCk c)(s)(hs:ScOk c.ts.sS.length s)(inn n)(t:WfN n)(h1:¬n.op=1)(h47:¬n.op=47)(hb:¬(n.op=15\/n.op=45\/n.op=46))(ht:(inn&&jc c n.op n.name)=false)(ih:∀ k,k∈n.sD->∀ inn,ExR c s inn k):ExR c s inn n:=by
 have hx:exam c s inn n=match zq c s (inn||decide (n.op=12)||decide (n.op=13)) n.sD with | .error e => .error e | .ok l=>zE c.ts.sS.length n.op n.n n.pos l:=by
  rw[vy,ht,if_neg zSp,if_neg h1,if_neg h47,if_neg hb]
  grind
 have C:n.op=12\/n.op=13->(inn||decide (n.op=12)||decide (n.op=13))=true:=fun h=>by grind
 have a0:¬n.op=12->¬n.op=13->(inn||decide (n.op=12)||decide (n.op=13))=inn:=fun h h'=>by simp[h,h']
 generalize (inn||decide (n.op=12)||decide (n.op=13))=B at *
 obtain⟨S,D,I,hq,J,P⟩:∃ S D,dgOf (exam c s inn n)=D/\(kd n.op=101->∀ q,exam c s inn n = .ok (some q)->S=qt q)/\(∀ e,zq c s B n.sD = .error e->S=zR/\D=e) /\
   (∀ l,zq c s B n.sD = .ok l->∃ R b,(∀ L:List RS,((n.op=5\/n.op=11\/n.op=12\/n.op=13)\/(n.op=6\/n.op=14\/n.op=7\/n.op=8\/n.op=32\/n.op=33\/n.op=9\/n.op=10)->L=l.map setO)->prC c.ts n L R b)/\(b=true->S=R/\D=(0,0))/\(b=false->S=zR/\D=(42,n.pos))):=by
  rw[hx];cases hE:zq c s B n.sD with
  |error e=>exact⟨zR,e,rfl,(fun _ q h=>by cases h),(fun e' h=>by grind),(fun l h=>by cases h)⟩
  |ok l =>
   obtain⟨a1,a2⟩:=YL hE;have a3:=(XL p.ts.ns t a1 (fun i k' a hi ha g=>jH p (szN k') k' s B a (qn _) (t.kid (List.mem_of_getElem? hi)) hs (a2 i k' a hi ha) g)).2;obtain⟨R,b,p1,o⟩:=qqT c.ts p.ts n l h1 (fun h=>hb (.inl h)) (fun h=>by
    grind) a3.2.2
   simp only;cases hA:zE c.ts.sS.length n.op n.n n.pos l with
   |error e =>
    rw[hA]at o;have o:b=false:=o;refine⟨zR,e,rfl,(fun _ q h=>by cases h),(fun e' h=>by cases h),(fun l' h=>by cases h;exact⟨R,b,p1,(fun h=>by grind),(fun _=>⟨rfl,qqV hA⟩)⟩)⟩
   |ok ko =>
    rw[hA]at o;obtain⟨o,p3⟩:=o;refine⟨R,(0,0),rfl,(fun hk q h=>?_),(fun e' h=>by cases h),(fun l' h=>by simp_all)⟩
    grind
 refine⟨S,?_,hq⟩;rw[I];clear I hx hq;obtain⟨X,T⟩:∃ X:Nd->Res,X=exam c s B:=⟨_,rfl⟩;have a4:∀ k,k∈n.sD->∃ S,qj qg 209 [eVw c B,lVr (envS s),eNd k] (.tup [eRS S,eDg (dgOf (X k))])/\(kd k.op=101->∀ q,X k = .ok (some q)->S=qt q):=fun k hk=>by rw[T];exact ih k hk B
 have U:∀ k a,k∈n.sD->X k = .ok a->kd k.op=101->∃ q,a=some q/\okKd c.ts.sS.length q:=fun k a hk h g=>by rw[T]at h;exact jH p (szN k) k s B a (qn _) (t.kid hk) hs h g
 have j:∀ k e,X k = .error e->40<=e.1:=fun k e h=>by rw[T]at h;exact Qw c (szN k) k s B e (qn _) h
 rw[qeN,<-T]at J P;clear T ih;have a5:=t.len;exact ex_t c p s n inn B X S D h1 h47 hb t a5 (fun hi=>by
  simp_all[Bool.true_and,Wj,Bool.or_eq_false_iff]) (fun h=>C (.inl h)) (fun h=>C (.inr h)) a0 a4 U j J P
theorem qeO(c)(l:okCk c):∀(m:Nat)(n),depN n<=m->WfN n->∀ s,ScOk c.ts.sS.length s->s.length+m<=80000->∀ inn,ExR c s inn n
 | 0,n,i,_,_,_,_,_=>zW1 (qdD n)
 |m+1,n,i,o,s,t,p,inn=>by
  have C:∀ k,k∈n.sD->∀ s',ScOk c.ts.sS.length s'->s'.length<=s.length+1->∀ inn,ExR c s' inn k:=fun k j s' g I inn=>qeO c l m k (by have:=qdC j;rw[Zw]at i;omega) (o.kid j) s' g zOm inn
  cases J:inn&&jc c n.op n.name with
  |true =>
   simp_all[qD,qqW]
  |false =>
   grind [qqX,qqY,qq0,qq2]
end QS
namespace QT
open YF Y9 Y10 Y1 Y2 Y14 Y15 Y16 YZ P1 P2 PA Q5 QD QE QI QJ QL QM QO QS
section
variable {ts:TS}
def ckR(ts:TS)(i:Nat):Ck:=⟨ts,i,tmsL ts ts.sT.length⟩
theorem Wk(h:okTS ts){i}(g:i<=ts.sT.length):okCk (ckR ts i):=⟨h,g,by show i<=(tmsL ts ts.sT.length).length;rw[ZX ts _ (qn _)];exact g⟩
theorem qeP{c c'}(g:c'.ts=c.ts)(l:∀ nm,zC c' nm=zC c nm)(o:∀ op nm,jc c' op nm=jc c op nm):∀ m n s inn,szN n<=m->exam c s inn n=exam c' s inn n
 | 0,n,_,_,C=>by obtain⟨op,nm,i,ks,p⟩:=n;simp[szN]at C
 |m+1,n,s,inn,C=>by
  have t:∀ k,k∈n.sD->∀(s:Scp)(inn:Bool),exam c s inn k=exam c' s inn k:=fun k t s inn=>qeP g l o m k s inn (zW1 (zl t))
  refine qn9 rfl rfl rfl rfl (o _ _) (fun _=>?_) (by rw[g]) (l _) (by rw[g]) rfl (fun _ J=>qoA fun k j=>t k j s true) (fun _ inn=>?_) (fun _ _ _ inn=>qcI fun k j=>t k j s inn)
  .grind [qn8]
  .cases I:n.sD with
   |nil=>rfl
   |cons k ks =>
    grind [ks,jj,zo,zq,qcI,q9]
theorem qq3(h:okTS ts){i}(l:i<=ts.sT.length)(n s inn):exam (ckR ts i) s inn n=exam (mkCk ts i) s inn n:=by
 refine(qeP (c:=mkCk ts i) (c':=ckR ts i) rfl (fun nm=>rfl) (fun op nm=>?_) (szN n) n s inn (qn _)).symm;unfold jc;have e:zC (ckR ts i) nm=zC (mkCk ts i) nm:=rfl;rw[e];cases o:zC (mkCk ts i) nm with
 |none=>rfl
 |some p =>
  obtain⟨j,g⟩:=ZW (uD h l) o;have j:p<i:=j;have g:p<ts.sT.length:=g;simp only;have t:=PC.ki ts p ts.sT.length g (qn _) g;have C:=PC.ki ts p i j l g;show (yX op||(decide (op=47)&&(tmsL ts ts.sT.length).getD p false))=(yX op||(decide (op=47)&&(tmsL ts i).getD p false));rw[t,C]
theorem qq4(h:okTS ts){i}(g:i<=ts.sT.length)(env n):jR (mkCk ts i) env n=if 30<=n.op then dgOf (exam (ckR ts i) (zO env) false n) else (43,n.pos):=by
 grind [jR,qq3]
theorem qeQ(ts)(h:okTS ts)(J:∀ p,p∈ts.sT->WfN p.body)(i)(o:i<=ts.sT.length)(env)(t:Qs ts.sS.length env)(j:env.length<=1000)(n)(R:WfN n)(T:depN n<=24) :
  qj qg 150 [eTS ts,aI i,lPm env,eNd n] (eDg (jR (mkCk ts i) env n)):=by
 rw[qq4 h o];have U:=h.ns;have hs:=Vh t;have a0:(zO env).length=env.length:=by
  have:=congrArg List.length (qeG env)
  grind [Wi,envV]
 obtain⟨S,ce,_⟩:=qeO (ckR ts i) (Wk h o) 24 n T R (zO env) hs zOm false;have C:=envU env j (fun p hp=>zW1 (t.r p hp));rw[qeG]at C;have c1:=qqH n;have c2:=qqE ts h J;refine qSU call150 func150 rfl ?_;refine t8 c1 (.zk (qE n) .nil) ?_;by_cases g:30<=n.op
 .rw [if_pos g]
  generalize dgOf (exam (ckR ts i) (zO env) false n)=D at *
  simp[go_sem,g];refine fG [0,1,3,5,7,2,4,6,8,9,10,11,12,13,14,15] [(2,1,[0,7]),(6,1,[0,7]),(8,1,[]),(12,2,[0,1,7]),(13,2,[0,1,7]),(14,1,[]),(15,1,[])] zKr zKr zSi ?_;simp[go_sem];refine fW c2 (.zk (zB ts) .nil) ?_;refine fW C (.zk (j5 env) .nil) ?_;refine t8 ce (wkE (ckR ts i) false _ n) ?_;simp[go_sem,qw];rw[if_pos (zb _)];generalize I:putCells _ 0 (cRS S)=P;have l:P=cRS S:=by rw[<-I];exact pc (aI 0) _ (fun _=>false) _
  subst l;clear I;simp[go_sem];exact .hf _ (wU D)
 .rw [if_neg g]
  simp[go_sem,g];exact .hf _ (wU (43,n.pos))
theorem qeR(ts)(h:okTS ts)(i:∀ p,p∈ts.sT->WfN p.body)(env)(j:Qs ts.sS.length env)(g:env.length<=1000)(n)(l:WfN n)(o:depN n<=24) :
  qj qg 69 [eTS ts,lPm env,eNd n] (eDg (jE ts env n)):=by
 have c1:=qeQ ts h i ts.sT.length (qn _) env j g n l o;have e:jR (mkCk ts ts.sT.length) env n=jE ts env n:=rfl;rw[e]at c1;generalize jE ts env n=D at *
 refine qSU call69 func69 rfl ?_;refine fW c1 (.zk (zB ts) (.zs (.zk (j5 env) (.zk (qE n) .nil)))) ?_;exact .hf _ (wU D)
theorem Jt(a b):dups (a++b)=dups a++dups b:=by simp[dups]
theorem wV(b):dups [b]=if b=true then [(41,0)] else []:=by cases b<;>rfl
theorem Qv(l):(dups l).length<=l.length:=by
 grind [dups,zT,List.length_filter_le]
theorem kT{C}(g)(l:List C)(k h):(repL g l).take (k+1)=(repL g l).take k++[(l.take k).any fun y=>g l[k] y]:=by
 grind [repL,Qt,wd,qaO,qy,Option.some.inj]
theorem Wl{C:Type}(p)(l:List C)(k h):(l.take (k+1)).any p=((l.take k).any p||p l[k]):=by
 rw[wd h,List.any_append];simp only[List.any_cons,List.any_nil,Bool.or_false]
abbrev eS:dC×Bool->dC×Bool->Bool:=fun x y=>decide (x.1=y.1)
abbrev eF:Fld->Fld->Bool:=fun x y=>decide (x.name=y.name)&&decide (x.sS=y.sS)
abbrev eP:Pd->Pd->Bool:=fun x y=>decide (x.name=y.name)
abbrev eM:dC×Int->dC×Int->Bool:=fun x y=>decide (x.1=y.1)
abbrev eA:dC×Nd->dC×Nd->Bool:=fun x y=>decide (x.1=y.1)
theorem Qz{mu lo s x}{xs ys:List Dg}{K}(j:OwnF lo mu 2 s (xs.map cDg))(o:qA mu x=some (ys.map cDg))(t:xs.length+ys.length<=100000)(C:∀ av mu',OwnF lo mu' 2 av ((xs++ys).map cDg)->(∀ i,i<lo->mu'[i]?=mu[i]?)->K av mu') :
  qx qg mu #[88,88] s x K:=by
 have g:∀ l:List Dg,qV 2 (l.map cDg):=fun l r p=>by
  obtain⟨n,_,rfl⟩:=qp.1 p;exact⟨rfl,rfl⟩
 refine qx.ownF (lo:=lo) (e:=63) (sz:=2) (bt:=16) (zv := .agg [aI 0,aI 0]) (xs:=xs.map cDg) (ys:=ys.map cDg) zSi zSi zSi rfl rfl zOm zOm j o (g xs) (g ys) zSo ?_
 grind
theorem qq5(ts)(h:okTS ts)(mu):qC qg 67 [eTS ts] mu fun e m=>∃ av,e = .ret av/\OwnF mu.length m 2 av ((dups (repL eS ts.sS)++dups (repL eF ts.sA)).map cDg)/\∀ i,i<mu.length->m[i]?=mu[i]?:=by
 refine qSW call67 func67 rfl {} ?_;have a6:=h.ns;have ab:=h.nf;simp[go_sem];refine aP ts.sS.length (fun i U=>U.tm 1 = .ip (cTS ts)/\U.tm 4=aI i/\OwnF mu.length U.mu 2 (U.tm 3) ((dups ((repL eS ts.sS).take i)).map cDg)/\∀ i,i<mu.length->U.mu[i]?=mu[i]?) ?_ ?_
 .simp_all [go_sem,dups,OwnF.nil,qn]
 rintro i U R ⟨e1,e4,J,hm⟩;have a0:(dups ((repL eS ts.sS).take i)).length<=i:=zQ (Qv _) (List.length_take_le ..);generalize h3:U.tm 3=av at *
 by_cases o:i<ts.sS.length
 .have p:=kT eS ts.sS i o
  have wi:=zWk i;simp[go_sem,e1,e4,o];refine aP i (fun k st2=>st2.tm 1 = .ip (cTS ts)/\st2.tm 4=aI i/\st2.tm 3=av/\st2.tm 6=aI k/\st2.tm 5=aB ((ts.sS.take k).any fun y=>eS ts.sS[i] y)/\st2.mu=U.mu) ?_ ?_
  .simp [go_sem, *]
  rintro k st2 hk ⟨f1,f4,f3,f6,f5,I⟩;generalize hT:(ts.sS.take k).any (fun y=>eS ts.sS[i] y)=T at *
  by_cases t:k<i
  .have C:k<ts.sS.length:=by omega
   have wk:=zWk k;have g:=Wl (fun y=>eS ts.sS[i] y) ts.sS k C;rw[hT]at g;simp[go_sem,f4,f6,t];refine tJ zKr ?_;cases T with
   |true =>
    simp_all[go_sem,Bool.true_or,aM]
   |false =>
    rw[Bool.false_or]at g;by_cases hq:ts.sS[k].1=ts.sS[i].1
    .simp_all [go_sem,eS,decide_eq_true,aM]
    .have l:(ts.sS.take (k+1)).any (fun y=>eS ts.sS[i] y)=false:=by rw[g];exact decide_eq_false fun e=>hq e.symm
     simp_all[go_sem,j0,aM]
  .have a1:k=i:=by omega
   subst a1;rw[hT]at p;cases T with
   |true =>
    simp[go_sem,f4,f3,f6,f5,I];refine Qz (ys:=[(41,0)]) J (by simp[qA]) zSo fun a7 m' a2 a3=>?_
    simp[go_sem,f4,wi];exact⟨o,aM ⟨zS1 f1,zSi,by rw[p,Jt,wV,if_pos rfl];simpa[go_sem] using a2,by simp only[qK];exact fun i R=>(a3 i R).trans (hm i R)⟩⟩
   |false =>
    simp[go_sem,f4,f6,f5,I,wi];exact⟨o,aM ⟨zS1 f1,zSi,by rw[p,Jt,wV,if_neg zSp,ye];simpa[go_sem,f3,I] using J,by simp only[qK];exact hm⟩⟩
 .have a4:i=ts.sS.length:=by omega
  subst a4;rw[zU (by rw[Qt];exact qn _)]at J;simp[go_sem,e1,e4];generalize a8:dups (repL eS ts.sS)=a5 at *
  have ad:a5.length<=4:=by rw[<-a8];exact zQ (Qv _) (by rw[Qt];exact a6)
  refine aP ts.sA.length (fun i U=>U.tm 1 = .ip (cTS ts)/\U.tm 7=aI i/\OwnF mu.length U.mu 2 (U.tm 3) ((a5++dups ((repL eF ts.sA).take i)).map cDg)/\∀ i,i<mu.length->U.mu[i]?=mu[i]?) ?_ ?_
  .exact ⟨zS1 e1,zSi,by simpa[go_sem,dups,h3] using J,zVs hm⟩
  clear a0 J hm e1 e4 h3 o R U;rintro i U R ⟨e1,e4,J,hm⟩;have a0:(dups ((repL eF ts.sA).take i)).length<=i:=zQ (Qv _) (List.length_take_le ..);generalize h3:U.tm 3=a9 at *
  by_cases o:i<ts.sA.length
  .have p:=kT eF ts.sA i o
   have wi:=zWk i;simp[go_sem,e1,e4,o];refine aP i (fun k st2=>st2.tm 1 = .ip (cTS ts)/\st2.tm 7=aI i/\st2.tm 3=a9/\st2.tm 9=aI k/\st2.tm 8=aB ((ts.sA.take k).any fun y=>eF ts.sA[i] y)/\st2.mu=U.mu) ?_ ?_
   .exact ⟨zS1 e1,zS1 e4,zS1 h3,zSi,zSi,zSi⟩
   rintro k st2 hk ⟨f1,f4,f3,f6,f5,I⟩;generalize hT:(ts.sA.take k).any (fun y=>eF ts.sA[i] y)=T at *
   by_cases t:k<i
   .have C:k<ts.sA.length:=by omega
    have wk:=zWk k;have g:=Wl (fun y=>eF ts.sA[i] y) ts.sA k C;rw[hT]at g;have ae:=h.fl _ (qv C);have aa:=qnA ts.sA[k].sS ts.sA[i].sS zOm;simp[go_sem,f4,f6,t];refine tJ zKr ?_;cases T with
    |true =>
     rw[Bool.true_or]at g;simp[go_sem,f6,f5,t,wk];exact aM ⟨zS1 f1,zS1 f4,zS1 f3,zSi,by rw[g];simp[go_sem],zS1 I⟩
    |false =>
     rw[Bool.false_or]at g;by_cases hq:ts.sA[k].name=ts.sA[i].name
     .simp [go_sem,f1,f4,f6,f5,C,o,hq]
      refine t8 aa (.zk (zy _) (.zk (zy _) .nil)) ?_;by_cases P:ts.sA[k].sS=ts.sA[i].sS
      .have l:(ts.sA.take (k+1)).any (fun y=>eF ts.sA[i] y)=true:=by rw[g];simp[eF,hq.symm,P.symm]
       simp[go_sem,f6,t,wk,P];exact aM ⟨zS1 f1,zS1 f4,zS1 f3,zSi,by rw[l];simp[go_sem],zS1 I⟩
      .have l:(ts.sA.take (k+1)).any (fun y=>eF ts.sA[i] y)=false:=by rw[g];simp[eF,hq.symm];exact fun e=>P e.symm
       simp[go_sem,f6,t,wk,P];exact aM ⟨zS1 f1,zS1 f4,zS1 f3,zSi,by rw[l];simp[go_sem],zS1 I⟩
     .have l:(ts.sA.take (k+1)).any (fun y=>eF ts.sA[i] y)=false:=by rw[g];simp[eF];exact fun e=>absurd e.symm hq
      simp[go_sem,f1,f4,f6,f5,t,C,o,wk,j0 hq];exact aM ⟨zS1 f1,zS1 f4,zS1 f3,zSi,by rw[l];simp[go_sem],zS1 I⟩
   .have a1:k=i:=by omega
    subst a1;rw[hT]at p;cases T with
    |true =>
     simp[go_sem,f4,f3,f6,f5,I];refine Qz (ys:=[(41,0)]) J (by simp[qA]) zSo fun a7 m' a2 a3=>?_
     simp[go_sem,f4,wi];exact⟨o,aM ⟨zS1 f1,zSi,by rw[p,Jt,wV,if_pos rfl,<-zL];simpa[go_sem] using a2,by simp only[qK];exact fun i R=>(a3 i R).trans (hm i R)⟩⟩
    |false =>
     simp[go_sem,f4,f6,f5,I,wi];exact⟨o,aM ⟨zS1 f1,zSi,by rw[p,Jt,wV,if_neg zSp,ye];simpa[go_sem,f3,I] using J,by simp only[qK];exact hm⟩⟩
  .have a4:i=ts.sA.length:=by omega
   subst a4;rw[zU (by rw[Qt];exact qn _)]at J;simp[go_sem,e1,e4,h3];exact⟨zUs J,hm⟩
end
end QT
namespace QU
open YF Y9 Y10 Y1 Y2 Y15 Y16 YZ P1 P2 PA QD QI QK QT
theorem qq6{ts i}(l):(∃ p,zC (ckR ts i) ts.sT[i].name=some p/\(ts.sT.take i).any (fun y=>eP ts.sT[i] y)=true)\/(zC (ckR ts i) ts.sT[i].name=none/\(ts.sT.take i).any (fun y=>eP ts.sT[i] y)=false):=by
 cases h:zC (ckR ts i) ts.sT[i].name with
 |some p =>
  left;refine⟨p,rfl,?_⟩;unfold zC at h;rw[List.findIdx?_eq_some_iff_getElem]at h;obtain⟨g,o,_⟩:=h;refine List.any_eq_true.2 ⟨_,qv g,?_⟩
  grind
 |none =>
  right;refine⟨rfl,?_⟩;unfold zC at h;rw[List.findIdx?_eq_none_iff]at h;rw[List.any_eq_false];intro x j;have:=h x j
  grind
theorem rdDg{lo mu av xs}(h:OwnF lo mu 2 av (xs.map cDg)):Rd mu av (lDg xs):=by
 refine h.1.rd (qV.ok fun r g=>?_) fun r g c i=>?_
 .obtain ⟨n,_,rfl⟩:=qp.1 g
  exact⟨rfl,rfl⟩
 .obtain ⟨n,_,rfl⟩:=qp.1 g
  rcases qz.1 i with rfl|i
  .exact HF.sc _
  grind [qX,HF.sc]
theorem Ju{lo sz mu av xs}(h:OwnF lo mu sz av xs)(c):OwnF lo (mu++[c]) sz av xs:=⟨Vb h.1 c,h.2.1,by have:=h.2.2;simp;omega⟩
theorem qq7(ts)(h:okTS ts)(wp:∀ p,p∈ts.sT->WfN p.body)(i)(P:i<ts.sT.length)(hd:depN ts.sT[i].body<=24):qj qg 68 [eTS ts,aI i] (lDg (uw ts i)):=by
 have a5:=h.pl _ (qv P);have af:=h.np;have c1:=qeQ ts h wp i zOm ts.sT[i].params ⟨zOm,a5.2⟩ zOm ts.sT[i].body (wp _ (qv P)) hd;have c2:=VC (ckR ts i) (Wk h zOm) ts.sT[i].name;have a6:=qq6 P;have hp:uw ts i=dups [(ts.sT.take i).any (fun y=>eP ts.sT[i] y)]++(dups (repL eM ts.sT[i].params)++rp (jR (mkCk ts i) ts.sT[i].params ts.sT[i].body)):=by
  grind [uw,qy,qcJ]
 rw[hp];generalize hD:jR (mkCk ts i) ts.sT[i].params ts.sT[i].body=D at *
 generalize hb:(ts.sT.take i).any (fun y=>eP ts.sT[i] y)=b at *
 have ag:(dups [b]).length<=1:=by grind [dups]
 refine qSU call68 func68 rfl ?_;refine tJ zKr ?_;simp[go_sem,P];refine t8 c2 (.zk (zB _) (.zs (.zs .nil))) ?_;have wk:WKs [eTS ts,aI i,lPm ts.sT[i].params,eNd ts.sT[i].body] [eTS ts,aI i,lPm ts.sT[i].params,eNd ts.sT[i].body] := .zk (zB _) (.zs (.zk (j5 _) (.zk (qE _) .nil)));have ae:=Yz;have fin:∀ U:St,True:=fun _=>trivial
 rcases a6 with ⟨p,hc,R⟩|⟨hc,R⟩
 case' inl =>
  subst R;rw[hc];have a7:(0:Int)<=(p:Int):=zOm;simp[go_sem,idxO,a7];refine Qz (lo:=0) (xs:=[]) (ys:=[(41,0)]) (OwnF.nil zSp) (by simp[qA]) zSp fun ah m0 ai _=>?_
  simp[go_sem,P]
 case' inr =>
  subst R;rw[hc];simp[go_sem,idxO,P]
 all_goals
  generalize a8:ts.sT[i]=g at *
 case' inl =>
  refine aP g.params.length (fun k U=>U.tm 2 = .ip (cTS ts)/\U.tm 1=aI i/\U.tm 6=lPm g.params/\U.tm 7=aI k/\OwnF 0 U.mu 2 (U.tm 5) ((dups [true]++dups ((repL eM g.params).take k)).map cDg)) ?_ ?_
  .simp_all [go_sem,dups]
 case' inr =>
  refine aP g.params.length (fun k U=>U.tm 2 = .ip (cTS ts)/\U.tm 1=aI i/\U.tm 6=lPm g.params/\U.tm 7=aI k/\OwnF 0 U.mu 2 (U.tm 5) ((dups [false]++dups ((repL eM g.params).take k)).map cDg)) ?_ ?_
  .simp_all [go_sem,dups,OwnF.nil]
 all_goals
  rintro k U hk ⟨e2,e1,e6,e7,ho⟩;have a4:(dups ((repL eM g.params).take k)).length<=k:=zQ (Y16.Qv _) (List.length_take_le ..);generalize h5:U.tm 5=t at *
  by_cases C:k<g.params.length
  .have a0:=kT eM g.params k C
   have wi:=zWk k;simp[go_sem,e6,e7,C];refine aP k (fun j st2=>st2.tm 2 = .ip (cTS ts)/\st2.tm 1=aI i/\st2.tm 6=lPm g.params/\st2.tm 7=aI k/\st2.tm 5=t/\st2.tm 9=aI j/\st2.tm 8=aB ((g.params.take j).any fun y=>eM g.params[k] y)/\st2.mu=U.mu) ?_ ?_
   .simp [go_sem, *]
   rintro j st2 hj ⟨f2,f1,f6,f7,f5,f9,f8,fm⟩;generalize hT:(g.params.take j).any (fun y=>eM g.params[k] y)=T at *
   by_cases a1:j<k
   .have a2:j<g.params.length:=by omega
    have wj:=zWk j;have o:=Wl (fun y=>eM g.params[k] y) g.params j a2;rw[hT]at o;simp[go_sem,f7,f9,a1];refine tJ zKr ?_;cases T with
    |true =>
     simp_all[go_sem,Bool.true_or,aM]
    |false =>
     rw[Bool.false_or]at o;by_cases hq:g.params[j].1=g.params[k].1
     .have l:(g.params.take (j+1)).any (fun y=>eM g.params[k] y)=true:=by rw[o];exact decide_eq_true hq.symm
      simp[go_sem,f6,f7,f9,f8,a1,a2,C,wj,hq];exact aM ⟨zS1 f2,zS1 f1,zS1 f6,zS1 f7,zS1 f5,zSi,by rw[l];simp[go_sem],zS1 fm⟩
     .have l:(g.params.take (j+1)).any (fun y=>eM g.params[k] y)=false:=by rw[o];exact decide_eq_false fun e=>hq e.symm
      simp[go_sem,f6,f7,f9,f8,a1,a2,C,wj,j0 hq];exact aM ⟨zS1 f2,zS1 f1,zS1 f6,zS1 f7,zS1 f5,zSi,by rw[l];simp[go_sem],zS1 fm⟩
   .have a9:j=k:=by omega
    subst a9;rw[hT]at a0;cases T with
    |true =>
     simp[go_sem,f7,f5,f9,f8,fm];refine Qz (ys:=[(41,0)]) ho (by simp[qA]) zSo fun aa m' I ab=>?_
     simp[go_sem,f7,wi];exact⟨C,aM ⟨zS1 f2,zS1 f1,zS1 f6,zSi,by rw[a0,Jt,<-zL];simpa[go_sem,wV] using I⟩⟩
    |false =>
     simp[go_sem,f7,f9,f8,fm,wi];exact⟨C,aM ⟨zS1 f2,zS1 f1,zS1 f6,zSi,by rw[a0,Jt];simpa[go_sem,wV,f5,fm] using ho⟩⟩
  .have ad:k=g.params.length:=by omega
   subst ad;rw[zU (by rw[Qt];exact qn _)]at ho a4;simp[go_sem,e6,e7];refine tJ zKr ?_;simp[go_sem,e2,e1,e6,P,a8];refine t8 c1 wk ?_;by_cases J:D.1=0
   .have a3:rp D=[]:=if_pos J
    rw[a3];simp[go_sem,h5,J];exact rdDg (Ju ho _)
   .have a3:rp D=[D]:=if_neg J
    rw[a3];simp[go_sem,h5,J];refine Qz (ys:=[D]) (Ju ho _) (by simp[qA]) (by simp only[zj,List.length_singleton];omega) fun aa m' I ab=>?_
    simp[go_sem];rw[zL]at I;exact rdDg I
theorem Vg(f:Nat->List Dg)(n):(qu (n+1)).flatMap f=(qu n).flatMap f++f n:=by
 rw[List.range_succ,List.flatMap_append];simp only[we,List.flatMap_nil,ye]
theorem qq8(ts)(h:okTS ts)(wp:∀ p,p∈ts.sT->WfN p.body)(wf:∀ f,f∈ts.sP->WfN f.2)(dp:∀ p,p∈ts.sT->depN p.body<=24)(df:∀ f,f∈ts.sP->depN f.2<=24):qj qg 29 [eTS ts] (lDg (vT ts)):=by
 have ak:=h.np;have al:=h.nfa;have hD:(dups (repL eS ts.sS)++dups (repL eF ts.sA)).length<=10:=by
  have a1:=Y16.Qv (repL eS ts.sS);have a2:=Y16.Qv (repL eF ts.sA);rw[Qt]at a1 a2;have:=h.ns;have:=h.nf;rw[zj];omega
 have hC:vT ts=(dups (repL eS ts.sS)++dups (repL eF ts.sA))++((qu ts.sT.length).flatMap (uw ts)++(qu ts.sP.length).flatMap (Qu ts ts.sP)):=by
  unfold vT;rw[zL]
 rw[hC];have a9:=qq5 ts h [];generalize dups (repL eS ts.sS)++dups (repL eF ts.sA)=D0 at *
 refine qSU call29 func29 rfl ?_;refine aA a9 (fun r m hr=>?_) (fun r m hr=>?_)
 case refine_2 =>
  grind
 obtain⟨an,e,ao,_⟩:=hr;cases e;simp[go_sem];refine aP ts.sT.length (fun i U=>U.tm 1 = .ip (cTS ts)/\U.tm 4=aI i/\OwnF 0 U.mu 2 (U.tm 3) ((D0++(qu i).flatMap (uw ts)).map cDg)) ?_ ?_
 .simp_all [go_sem]
 rintro i U hi ⟨e1,e4,R⟩;have aj:=Y16.Kh (uw ts) (Y16.qaR h) i;generalize h3:U.tm 3=t at *
 by_cases g:i<ts.sT.length
 .have l:=Vg (uw ts) i
  have aq:=Y16.qaR h i;have aa:=qq7 ts h wp i g (dp _ (qv g));have wi:=zWk i;generalize uw ts i=PD at *
  simp[go_sem,e1,e4,h3,g];refine fW aa (.zk (zB ts) (.zs .nil)) ?_;refine Qz (ys:=PD) R (by simp[qA]) (by simp only[zj];omega) fun ab m' a3 ad=>?_
  simp_all[go_sem,aM,zL]
 .have a4:i=ts.sT.length:=by omega
  subst a4;simp[go_sem,e1,e4];generalize (qu ts.sT.length).flatMap (uw ts)=P0 at *
  refine aP ts.sP.length (fun i U=>U.tm 1 = .ip (cTS ts)/\U.tm 5=aI i/\OwnF 0 U.mu 2 (U.tm 3) (((D0++P0)++(qu i).flatMap (Qu ts ts.sP)).map cDg)) ?_ ?_
  .exact ⟨zS1 e1,zSi,by simpa[go_sem,h3] using R⟩
  clear R e1 e4 h3 g hi U;rintro i U hi ⟨e1,e4,R⟩;have ae:=Y16.Kh (Qu ts ts.sP) (Y16.qmL ts ts.sP) i;generalize h3:U.tm 3=af at *
  by_cases g:i<ts.sP.length
  .have l:=Vg (Qu ts ts.sP) i
   have ag:Qu ts ts.sP i=dups [(ts.sP.take i).any (fun y=>eA ts.sP[i] y)]++rp (jE ts [] ts.sP[i].2):=by
    unfold Qu;rw[qy g];simp only;rw[qcJ,qy g]
   rw[ag]at l;have cf:=qeR ts h wp [] ⟨zSp,zSp⟩ zSp ts.sP[i].2 (wf _ (qv g)) (df _ (qv g));have wi:=zWk i;generalize jE ts [] ts.sP[i].2=D at *
   simp[go_sem,e1,e4,g];refine aP i (fun k st2=>st2.tm 1 = .ip (cTS ts)/\st2.tm 5=aI i/\st2.tm 3=af/\st2.tm 7=aI k/\st2.tm 6=aB ((ts.sP.take k).any fun y=>eA ts.sP[i] y)/\st2.mu=U.mu) ?_ ?_
   .exact ⟨zS1 e1,zS1 e4,zS1 h3,zSi,zSi,zSi⟩
   rintro k st2 hk ⟨f1,f4,f3,f6,f5,fm⟩;generalize hT:(ts.sP.take k).any (fun y=>eA ts.sP[i] y)=T at *
   by_cases a0:k<i
   .have a5:k<ts.sP.length:=by omega
    have wk:=zWk k;have o:=Wl (fun y=>eA ts.sP[i] y) ts.sP k a5;rw[hT]at o;simp[go_sem,f4,f6,a0];refine tJ zKr ?_;cases T with
    |true =>
     rw[Bool.true_or]at o;simp[go_sem,f6,f5,a0,wk];exact aM ⟨zS1 f1,zS1 f4,zS1 f3,zSi,by rw[o];simp[go_sem],zS1 fm⟩
    |false =>
     rw[Bool.false_or]at o;by_cases hq:ts.sP[k].1=ts.sP[i].1
     .have I:(ts.sP.take (k+1)).any (fun y=>eA ts.sP[i] y)=true:=by rw[o];exact decide_eq_true hq.symm
      simp[go_sem,f1,f4,f6,f5,a0,a5,g,wk,hq];exact aM ⟨zS1 f1,zS1 f4,zS1 f3,zSi,by rw[I];simp[go_sem],zS1 fm⟩
     .have I:(ts.sP.take (k+1)).any (fun y=>eA ts.sP[i] y)=false:=by rw[o];exact decide_eq_false fun e=>hq e.symm
      simp[go_sem,f1,f4,f6,f5,a0,a5,g,wk,j0 hq];exact aM ⟨zS1 f1,zS1 f4,zS1 f3,zSi,by rw[I];simp[go_sem],zS1 fm⟩
   .have ah:k=i:=by omega
    subst ah;rw[hT]at l;have a6:WKs [eTS ts,.lst true [],eNd ts.sP[k].2] [eTS ts,lPm [],eNd ts.sP[k].2] := .zk (zB ts) (.cons (WK.lst fun r hr=>absurd hr qO) (.zk (qE _) .nil));have ar:=nR;cases T with
    |true =>
     simp[go_sem,f4,f3,f6,f5,fm];refine Qz (ys:=[(41,0)]) R (by simp[qA]) (by simp only[zj,List.length_singleton];omega) fun ab m' a3 ad=>?_
     simp[go_sem];refine tJ zKr ?_;simp[go_sem,f1,f4,g];refine t8 cf a6 ?_;by_cases C:D.1=0
     .have J:rp D=[]:=if_pos C
      rw[J,ye]at l;simp[go_sem,f4,wi,C];exact⟨g,aM ⟨zS1 f1,zSi,by rw[l,<-zL];simpa[go_sem,wV] using Ju a3 (.arr [aI 0,aI D.2])⟩⟩
     .have J:rp D=[D]:=if_neg C
      rw[J]at l;simp[go_sem,C];refine Qz (ys:=[D]) (Ju a3 _) (by simp[qA]) (by simp only[zj,List.length_singleton];omega) fun a7 ai P a8=>?_
      simp[go_sem,f4,wi];exact⟨g,aM ⟨zS1 f1,zSi,by rw[l,<-zL];simpa[go_sem,wV,zL] using P⟩⟩
    |false =>
     simp[go_sem,f4,f6,f5,fm];refine tJ zKr ?_;simp[go_sem,f1,f4,g];refine t8 cf a6 ?_;by_cases C:D.1=0
     .have J:rp D=[]:=if_pos C
      rw[J,ye]at l;simp[go_sem,f4,wi,C];exact⟨g,aM ⟨zS1 f1,zSi,by rw[l,<-zL];simpa[go_sem,wV,f3] using Ju R (.arr [aI 0,aI D.2])⟩⟩
     .have J:rp D=[D]:=if_neg C
      rw[J]at l;simp[go_sem,f3,C];refine Qz (ys:=[D]) (Ju R _) (by simp[qA]) (by simp only[zj,List.length_singleton];omega) fun a7 ai P a8=>?_
      simp[go_sem,f4,wi];exact⟨g,aM ⟨zS1 f1,zSi,by rw[l,<-zL];simpa[go_sem,wV,zL] using P⟩⟩
  .have a4:i=ts.sP.length:=by omega
   subst a4;simp[go_sem,e1,e4,h3];rw[zL]at R;exact rdDg R
end QU
namespace QP
end QP
namespace QV
end QV
namespace QW
open YS YF Y9 Y10 Y1 Y2 YZ YA P1 P2
section
variable {l:List dC}
abbrev rNm(b:dC):List AV:=[aS b]
abbrev lNm(l:List dC):AV := .lst false (l.map rNm)
def namL(n:Nd):List dC:=((preN n).filter fun x=>decide (x.name≠⟨#[]⟩)).map Nd.name
def vI(l:List Nd):List dC:=((zw l).filter fun x=>decide (x.name≠⟨#[]⟩)).map Nd.name
theorem qq9(n):namL n=(if n.name=⟨#[]⟩ then [] else [n.name])++vI n.sD:=by
 unfold namL vI;rw[Zx,List.filter_cons];by_cases h:n.name=⟨#[]⟩
 .simp [h]
 .simp [h]
theorem Jj:∀ a b,zw (a++b)=zw a++zw b
 | [],b=>rfl
 |x :: a,b=>by rw[List.cons_append];simp only[zw];rw[Jj a b,zL]
theorem qrA(a k):vI (a++[k])=vI a++namL k:=by
 grind [vI,namL,Jj,zw]
theorem qrB(l):(vI l).length<=(zw l).length:=by
 grind [vI,zT,List.length_filter_le]
theorem Wm(n):(namL n).length<=(preN n).length:=by
 grind [namL,zT,List.length_filter_le]
theorem kU(l:List dC):qV 1 (l.map rNm):=fun r g=>by
 obtain⟨x,_,rfl⟩:=qp.1 g;exact⟨rfl,rfl⟩
theorem qeT(l):HF (lNm l):=HF.lst fun r g c i=>by
 obtain⟨x,_,rfl⟩:=qp.1 g
 grind [qX,HF.sc]
theorem rdNm{lo mu av}(h:OwnF lo mu 1 av (l.map rNm)):Rd mu av (lNm l):=
 h.1.rd (kU l).ok fun r g c i=>by
  obtain⟨x,_,rfl⟩:=qp.1 g
  grind [qX,HF.sc]
theorem appNm{mu lo s x}{xs ys:List dC}{K}(g:OwnF lo mu 1 s (xs.map rNm))(j:qA mu x=some (ys.map rNm))(l:xs.length+ys.length<=1000000)(o:∀ av mu',OwnF lo mu' 1 av ((xs++ys).map rNm)->(∀ i,i<lo->mu'[i]?=mu[i]?)->K av mu') :
  qx qg mu #[214,214] s x K:=by
 refine qx.ownF (lo:=lo) (e:=9) (sz:=1) (bt:=16) (zv:=aS ⟨#[]⟩) (xs:=xs.map rNm) (ys:=ys.map rNm) zSi zSi zSi rfl rfl zOm zOm g j (kU xs) (kU ys) zSo ?_
 grind
theorem qrC(l k):(zw (l.take k)).length<=(zw l).length:=by
 grind [zw,Jj,List.take_append_drop,zj]
theorem kV:∀ m n,szN n<=m->Small n->∀ lo mu av xs,OwnF lo mu 1 av (xs.map rNm)->xs.length+(preN n).length<=500000 ->
  qC qg 217 [av,eNd n] mu fun e C=>∃ g,e = .ret g/\OwnF lo C 1 g ((xs++namL n).map rNm)/\∀ i,i<lo->C[i]?=mu[i]?
 | 0,n,J,_=>by obtain⟨op,nm,i,ks,p⟩:=n;simp[szN]at J
 |m+1,n,J,hs=>by
  intro lo mu av xs I hl;have ih:∀ k,k∈n.sD->∀(lo:Nat)(mu:Mu)(av:AV)(xs:List dC),OwnF lo mu 1 av (xs.map rNm)->xs.length+(preN k).length<=500000->qC qg 217 [av,eNd k] mu fun e C=>∃ g,e = .ret g/\OwnF lo C 1 g ((xs++namL k).map rNm)/\∀ i,i<lo->C[i]?=mu[i]?:=fun k R =>
   kV m k (zW1 (zl R)) (hs.kid R)
  have a3:=hs.len;have o:=qq9 n;have a4:(preN n).length=1+(zw n.sD).length:=by rw[Zx,yy];omega
  refine qSW call217 func217 rfl {} ?_;by_cases P:n.name=⟨#[]⟩
  case' pos =>
   rw[if_pos P,y8]at o;simp[go_sem,P];refine aP n.sD.length (fun k U=>U.tm 3 = .ip (cNd n)/\U.tm 5=aI k/\OwnF lo U.mu 1 (U.tm 0) ((xs++vI (n.sD.take k)).map rNm)/\∀ i,i<lo->U.mu[i]?=mu[i]?) ?_ ?_
   .simp_all [go_sem,vI,zw]
   generalize hX:xs=X at *
   have T:X.length+(zw n.sD).length<=500000:=zOm;have l:X++vI n.sD=X++namL n:=by rw[o]
  case' neg =>
   rw[if_neg P]at o;have a0:n.name.toList.isEmpty=false:=by simpa using j0 P
   simp[go_sem,a0];refine appNm (ys:=[n.name]) I (by simp[qA]) (by grind) fun g C a5 a6=>?_
   simp[go_sem];refine aP n.sD.length (fun k U=>U.tm 3 = .ip (cNd n)/\U.tm 5=aI k/\OwnF lo U.mu 1 (U.tm 0) (((xs++[n.name])++vI (n.sD.take k)).map rNm)/\∀ i,i<lo->U.mu[i]?=mu[i]?) ?_ ?_
   .simp_all [go_sem,vI,zw]
   generalize hX:xs++[n.name]=X at *
   have T:X.length+(zw n.sD).length<=500000:=by grind
   have l:X++vI n.sD=xs++namL n:=by grind
  all_goals
   rintro k U R ⟨e3,e5,I,J⟩;generalize h0:U.tm 0=a1 at *
   by_cases t:k<n.sD.length
   .have w1:=zWk k
    have a7:vI (n.sD.take (k+1))=vI (n.sD.take k)++namL n.sD[k]:=by rw[wd t,qrA]
    have a8:(zw (n.sD.take (k+1))).length=(zw (n.sD.take k)).length+(preN n.sD[k]).length:=by grind [wd,Jj,zw]
    have h1:=qrC n.sD (k+1);have h2:=qrB (n.sD.take k);simp[go_sem,e3,e5,h0,t,qZ];refine aA (ih n.sD[k] (qv t) lo U.mu a1 _ I (by rw[zj];omega)) (fun r m2 hr=>?_) (fun r m2 hr=>?_)
    .simp_all [go_sem,aM,zL,qK,trans]
    grind
   .have a2:k=n.sD.length:=by omega
    subst a2;rw[za,l]at I;simp[go_sem,e3,e5,h0];exact⟨zUs I,J⟩
def takL(ts:TS)(n:Nd):List dC:=namL n++ts.sT.flatMap fun p=>namL p.body
theorem qrD(ts)(h:okTS ts)(wp:∀ p,p∈ts.sT->WfN p.body)(n)(hw:WfN n)(hl:(preN n).length<=400)(hp:∀ p,p∈ts.sT->(preN p.body).length<=400):qj qg 157 [eTS ts,eNd n] (lNm (takL ts n)):=by
 have a3:=h.np;have hk:∀ i (o:i<ts.sT.length),ts.sT.take (i+1)=ts.sT.take i++[ts.sT[i]]:=fun i o=>wd o
 have I:∀ i,((ts.sT.take i).flatMap fun p=>namL p.body).length<=400*i:=by
  intro i;induction i with
  |zero=>simp
  |succ i ih =>
   by_cases o:i<ts.sT.length
   .rw [hk i o,List.flatMap_append,zj]
    have h1:=Wm ts.sT[i].body;have h2:=hp _ (qv o);simp only[we,List.flatMap_nil,ye];omega
   .have e1:ts.sT.take (i+1)=ts.sT:=zU zOm
    have l:ts.sT.take i=ts.sT:=zU zOm;rw[e1];rw[l]at ih;omega
 have hn:=Wm n;refine qSU call157 func157 rfl ?_;refine aA (kV (szN n) n (qn _) hw.small 0 [] (.lst true []) [] (OwnF.nil zSp) zSo) (fun r J j=>?_) (fun r J j=>?_)
 case refine_2 =>
  obtain⟨t,e,_⟩:=j;cases e
 obtain⟨a4,e,C,_⟩:=j;cases e;rw[y8]at C;simp[go_sem];refine aP ts.sT.length (fun k U=>U.tm 2 = .ip (cTS ts)/\U.tm 6=aI k/\OwnF 0 U.mu 1 (U.tm 5) ((namL n++(ts.sT.take k).flatMap fun p=>namL p.body).map rNm)) ?_ ?_
 .exact ⟨zSi,zSi,zVs C⟩
 rintro k U a5 ⟨l,P,R⟩;generalize h5:U.tm 5=T at *
 by_cases g:k<ts.sT.length
 .have w1:=zWk k
  have a0:(ts.sT.take (k+1)).flatMap (fun p=>namL p.body)=(ts.sT.take k).flatMap (fun p=>namL p.body)++namL ts.sT[k].body:=by
   rw[hk k g,List.flatMap_append];simp only[we,List.flatMap_nil,ye]
  have h1:=I k;have h2:=hp _ (qv g);simp[go_sem,l,P,h5,g,Yz];refine aA (kV (szN ts.sT[k].body) ts.sT[k].body (qn _) (wp _ (qv g)).small 0 U.mu T _ R (by rw[zj];omega)) (fun r J j=>?_) (fun r J j=>?_)
  .obtain ⟨t,e,a1,_⟩:=j
   cases e;simp[go_sem,l,P,w1];exact⟨g,aM ⟨zS1 l,zSi,by rw[a0,<-zL];simpa[go_sem] using a1⟩⟩
  .obtain ⟨t,e,_⟩:=j
   cases e
 .have a2:k=ts.sT.length:=by omega
  subst a2;rw[za]at R;simp[go_sem,l,P,h5];exact rdNm R
def inL(nm:dC)(l:List dC):Bool:=l.any fun x=>decide (x=nm)
theorem kW{nm}:inL nm l=true↔nm∈l:=by
 unfold inL;simp
theorem qeU{nm}(h:¬nm∈l):inL nm l=false:=by
 grind [inL,absurd,kW]
theorem hasU(l nm)(R:l.length<=1000000):qj qg 263 [lNm l,aS nm] (aB (inL nm l)):=by
 refine qSU call263 func263 rfl ?_;refine aP l.length (fun k U=>U.tm 0=lNm l/\U.tm 1=aS nm/\U.tm 5=aI k/\∀ x,x∈l.take k->x≠nm) ?_ ?_
 .simp [go_sem, *]
 rintro k U T ⟨i,j,t,C⟩;by_cases g:k<l.length
 .have P:=zWk k
  by_cases o:l[k]=nm
  .have I:inL nm l=true:=kW.2 (o ▸ qv g)
   rw[I];simp[go_sem,i,j,t,g,o];exact .zsc _
  .simp [go_sem,i,j,t,g,j0 o,P]
   refine aM ⟨zS1 i,zS1 j,zSi,fun x p=>?_⟩;rw[wd g,qP,qX]at p;rcases p with p|rfl
   .exact C x p
   .exact o
 .have J:k=l.length:=by omega
  subst J;rw[za]at C;have I:inL nm l=false:=qeU fun h=>C nm h rfl
  rw[I];simp[go_sem,i,j,t];exact .zsc _
theorem qrE(u:Nat)(h:u<10):ByteArray.empty.push (UInt8.ofNat ((48:Int)+(u:Int)).toNat)=vt u:=by
 unfold vt;rw[Lib.itoa_nonneg,Lib.decDigits_one h,show ((48:Int)+(u:Int)).toNat=48+u by omega];rfl
theorem qrF(u)(h:¬u<10):vt ((u / 10:Nat):Int)++ByteArray.empty.push (UInt8.ofNat ((48:Int)+((u % 10:Nat):Int)).toNat)=vt u:=by
 unfold vt;rw[Lib.itoa_nonneg,Lib.itoa_nonneg,Lib.decDigits.eq_1 u,dif_neg h,show ((48:Int)+((u % 10:Nat):Int)).toNat=48+u % 10 by omega];apply ByteArray.ext;simp
theorem digU:∀(m u:Nat),u<=m->u<=1000000000->qj qg 262 [aI u] (aS (vt u))
 |m,u,C,I=>by
  have o:qo.wrap (48+(u:Int))=48+(u:Int):=zWr;refine qSV call262 func262 rfl ?_;by_cases h:u<10
  .have i:(u:Int)<10:=by omega
   have w2:IntKind.u8.wrap (48+(u:Int))=48+(u:Int):=IntWalk.u8_in _ ⟨zOm,zOm⟩;have g:=qrE u h;simp[go_sem,i,o,w2,g];exact .zsc _
  .have i:¬(u:Int)<10:=by omega
   have p:=digU (u / 10) (u / 10) (qn _) zOm;have g:=qrF u h;simp[go_sem,i];refine tJ zKr ?_;have t:qo.wrap ((u:Int) / 10)=((u / 10:Nat):Int):=by rw[show ((u:Int) / 10)=((u / 10:Nat):Int) from rfl];grind [yh]
   have t3:(u:Int).tmod 10=((u % 10:Nat):Int):=rfl;have w4:qo.wrap (48+((u % 10:Nat):Int))=48+((u % 10:Nat):Int):=zWr;have w5:IntKind.u8.wrap (48+((u % 10:Nat):Int))=48+((u % 10:Nat):Int):=IntWalk.u8_in _ ⟨zOm,zOm⟩;have j:=qcC ((u / 10:Nat):Int) zOm zOm;simp[go_sem,t];refine t8 p (.zs .nil) ?_;have c1:((u / 10:Nat):Int)=(u:Int) / 10:=rfl;have c2:((u % 10:Nat):Int)=(u:Int) % 10:=rfl;rw[c1]at j g;rw[c2]at w4 w5 g;have l:(vt ((u:Int) / 10)).size<=9223372036854775806:=zOm;simp[go_sem,t3,w4,w5,l,g];exact .zsc _
end
end QW
namespace QX
open YS YF Y9 Y1 Y2 YX YZ YA YB P1 QD QK QW
abbrev cWk(ts:TS)(l:List dC)(s:ISt):List AV:=cTS ts++[lNm l,aI s.last,aI s.sM]
abbrev eWk(ts:TS)(l:List dC)(s:ISt):AV := .agg (cWk ts l s)
theorem qrG(ts l s):∀ c,c∈cWk ts l s->HF c:=fun c g=>by
 rcases qP.1 g with g|g
 .exact J5 ts c g
 .simp only[qz,qO,or_false]at g
  rcases g with rfl|rfl|rfl
  .exact qeT l
  .exact HF.sc _
  .exact HF.sc _
theorem wW(ts l s):HF (eWk ts l s):=HF.agg (qrG ts l s)
structure Tn (l:List dC) (es:List (dC×Bool)):Prop where
 mem:∀ nm:dC,nm≠⟨#[]⟩->(nm∈l↔getK nm es=some true)
 len:es.length<=l.length+1
theorem vN_ne(k):vN k≠⟨#[]⟩:=fun e=>by
 have:=congrArg ByteArray.size e;unfold vN at this;rw[ByteArray.size_append]at this;have g:(⟨#[118]⟩:dC).size=1:=rfl;have i:(⟨#[]⟩:dC).size=0:=rfl;omega
theorem qrH{ts l es}(t:Tn l es)(k):uy ts es (vN k)=(decide ((zS ts (vN k)).length=0)&&!inL (vN k) l):=by
 unfold uy;have i:=t.mem (vN k) (vN_ne k);have g:decide (zS ts (vN k)=[])=decide ((zS ts (vN k)).length=0):=by
  simp[List.length_eq_zero_iff]
 rw[g,Bool.and_comm];congr 1;by_cases j:vN k∈l
 .grind [kW]
 simp_all[qeU,Bool.not_false,decide_eq_true_eq]
theorem two{C:Type}{l}{a b:C}(g:l[0]?=some a)(i:l[1]?=some b):∃ r,l=a :: b :: r:=by
 match l,g,i with
 |_ :: _ :: r,g,i =>
  grind
abbrev zWc:List AV:=[.lst true [],.lst true [],.lst true [],.lst true [],.lst true [],aI 0,aI 0]
theorem qrI(ts)(h:okTS ts)(l es)(t:Tn l es)(hl:l.length<=400000)(s:ISt)(hs:0<=s.last/\s.last+(qG ts es:Nat)<=1000000000)(a5:∃ j,1<=j/\j<=qG ts es/\uy ts es (vN (s.last+j))=true) :
  qj qg 216 [eWk ts l s] (.tup [eWk ts l ⟨yE ts es (qG ts es) s.last,s.sM⟩,aS (vN (yE ts es (qG ts es) s.last))]):=by
 have a9:=h.ns;have aa:=h.nf;have hF:qG ts es<=l.length+40:=by have:=t.len;unfold qG;omega
 have a6:okNm ts:=⟨h.sl,zOm,zOm,fun f hf=>zW1 (h.fl f hf)⟩;generalize ab:qG ts es=F at *
 generalize hR:yE ts es F s.last=R;refine qSQ call216 func216 rfl { mt:=[1] } ?_;simp[go_sem];refine dS (fun m U=>∃(i:Nat) (k:Int),i+m=F/\0<=k/\k+m<=1000000000/\U.tm 1 = .ptr 0 0/\U.tm 2 = .ptr 1 0/\U.tm 4=aI i/\U.mu[0]?=some (.arr (cWk ts l ⟨k,s.sM⟩))/\U.mu[1]?=some (.arr zWc)/\yE ts es m k=R/\∃ j:Nat,1<=j/\j<=m/\uy ts es (vN (k+j))=true) F ?_ ?_
 .exact ⟨0,s.last,zOm,hs.1,zOm,zSi,zSi,zSi,zSi,zSi,hR,a5⟩
 rintro m U ⟨i,k,ad,ae,af,J,P,e4,m0,m1,hI,j,ag,ah,ai⟩;obtain⟨m,rfl⟩:∃ m',m=m'+1:=⟨m-1,zOm⟩;obtain⟨rr,o⟩:=two m0 m1;have w1:qo.wrap (k+1)=k+1:=zWr;have w2:qo.wrap ((l.length:Int)+40)=(l.length:Int)+40:=zWr;have w3:=zWk i;have g:(i:Int)<=(l.length:Int)+40:=zOm;obtain⟨u,hu⟩:∃ u:Nat,k+1=(u:Int):=⟨(k+1).toNat,zOm⟩;have cd:=digU u u (qn _) zOm;have aj:=qcC (u:Int) zOm zOm;have a3:1+(vt (u:Int)).size<=9223372036854775807:=zOm;have hv:(⟨#[118]⟩:dC)++vt (u:Int)=vN (k+1):=by rw[hu];rfl
 have p:=qrH (ts:=ts) t (k+1);have cn:=kE ts a6 (vN (k+1));have a0:=kC ts (vN (k+1));have hk:(named ts (vN (k+1))).2=(zS ts (vN (k+1))).length:=by rw[kQ h]
 rw[hk]at cn;generalize (named ts (vN (k+1))).1=C at *
 have ch:=hasU l (vN (k+1)) zOm;clear m0 m1;simp[go_sem,J,P,e4,o,w1,w2,g];refine t8 cd (.cons (by rw[hu];exact .hf (HF.sc _)) .nil) ?_;simp[go_sem,J,P,e4,o,w1,w2,g,a3,hv];refine t8 cn (.zk (zB ts) (.zs .nil)) ?_;simp[go_sem,J,P,e4,o,w1,w2,g,a0.len];rw[if_pos a0.one];generalize putCells _ 0 C=PC;have next:uy ts es (vN (k+1))=false->∃ k':Int,k'=k+1/\yE ts es m k'=R/\∃ j:Nat,1<=j/\j<=m/\uy ts es (vN (k'+j))=true:=fun hn=>by
  refine⟨k+1,rfl,?_,j-1,?_,zOm,?_⟩
  .simp_all [yE,if_neg]
  .have:j≠1:=fun e=>by grind
   omega
  grind
 by_cases T:zS ts (vN (k+1))=[]
 .rw [T]at p
  simp[go_sem,J,P,e4,o,w1,w2,g,T];refine t8 ch (.zk (qeT l) (.zs .nil)) ?_;cases a4:inL (vN (k+1)) l with
  |true =>
   rw[a4]at p;obtain⟨k',I,a1,a2⟩:=next p;simp[go_sem,J,P,e4,o,w1,w2,w3,g];exact⟨m,zOm,aM ⟨i+1,k+1,zOm,zOm,zOm,zS1 J,zS1 P,zSi,zSi,zSi,by rw[<-I];exact a1,by rw[<-I];exact a2⟩⟩
  |false =>
   rw[a4]at p;have a7:R=k+1:=by rw[<-hI];simp only[yE];rw[if_pos (by rw[p];rfl)]
   simp[go_sem,J,P,e4,o,w1,w2,g];rw[a7];exact .hf _ (HF.tup fun x hx=>by
    simp only[qz,qO,or_false]at hx;rcases hx with rfl|rfl
    .exact wW ts l ⟨k+1,s.sM⟩
    .exact HF.sc _)
 .have a8:¬(zS ts (vN (k+1))).length=0:=fun e=>T (List.length_eq_zero_iff.1 e)
  rw[decide_eq_false a8]at p;obtain⟨k',I,a1,a2⟩:=next p;simp[go_sem,J,P,e4,o,w1,w2,w3,g,T];exact⟨m,zOm,aM ⟨i+1,k+1,zOm,zOm,zOm,zS1 J,zS1 P,zSi,zSi,zSi,by rw[<-I];exact a1,by rw[<-I];exact a2⟩⟩
abbrev Sb:=dC×IV
def cAr:Option Nd->List AV
 |some a=>cNd a
 |none=>[aI 0,aS ⟨#[]⟩,aI 0,.lst true [],aI 0]
@[go_sem] theorem cAr_some(a):cAr (some a)=cNd a:=rfl
@[go_sem] theorem cAr_none:cAr none=[aI 0,aS ⟨#[]⟩,aI 0,.lst true [],aI 0]:=rfl
@[go_sem] theorem qrJ(o):(cAr o).length=5:=by cases o<;>simp[go_sem,jp]
theorem qrK(o):∀ c,c∈cAr o->HF c:=by
 cases o with
 |some a=>exact jQ a
 |none =>
  intro c g;simp only[cAr,qz,qO,or_false]at g;rcases g with rfl|rfl|rfl|rfl|rfl
  .exact HF.sc _
  .exact HF.sc _
  .exact HF.sc _
  .exact HF.lst fun r i=>absurd i qO
  .exact HF.sc _
abbrev cSb(x:Sb):List AV:=[aS x.1,aS x.2.name,aB x.2.arg.isSome]++cAr x.2.arg++[aI x.2.size]
abbrev lSb(l:List Sb):AV := .lst false (l.map cSb)
def u9(nm:dC)(l:List Sb):Option IV:=l.foldl (fun r e=>if e.1=nm then some e.2 else r) none
theorem Wn(nm l e):u9 nm (l++[e])=if e.1=nm then some e.2 else u9 nm l:=by
 unfold u9;rw[List.foldl_append];rfl
theorem kX{mu}(ts l s n z):Rd mu (.tup [eWk ts l s,eNd n,aI z]) (.tup [eWk ts l s,eNd n,aI z]) := .hf _ (HF.tup fun x g=>by
 simp only[qz,qO,or_false]at g;rcases g with rfl|rfl|rfl
 .exact wW ts l s
 .exact qE n
 .exact HF.sc _)
def Q0(sc:List Sb)(n:Nd)(s:ISt):(Nd×Int)×ISt:=match u9 n.name sc with
 |none=>((n,1),s)
 |some v=>match v.arg with
  |none=>((.mk n.op v.name n.n n.sD n.pos,1),s)
  |some a=>((a,v.size),payS v.size s)
theorem leafU(ts l sc)(hl:sc.length<=1000000)(n s)(hs:0<=s.sM/\s.sM<=1000000)(hz:∀ e,e∈sc->0<=e.2.size/\e.2.size<=1000000) :
  qj qg 213 [eWk ts l s,lSb sc,eNd n] (.tup [eWk ts l (Q0 sc n s).2,eNd (Q0 sc n s).1.1,aI (Q0 sc n s).1.2]):=by
 unfold Q0;generalize hR:u9 n.name sc=R;have wl:qo.wrap ((sc.length:Int)-1)=(sc.length:Int)-1:=zWr;refine qSQ call213 func213 rfl { mt:=[3,5] } ?_;simp[go_sem,wl,qZ];refine dS (fun m U=>m<=sc.length/\U.tm 1=lSb sc/\U.tm 3 = .ptr 0 0/\U.tm 5 = .ptr 1 0/\U.tm 6 = .ptr 2 0/\U.tm 7 = .ptr 3 0/\U.tm 9=aI ((m:Int)-1)/\U.mu=[.arr (cWk ts l s),.arr (cNd n),.arr zWc,.arr [aI 0,aS ⟨#[]⟩,aI 0,.lst true [],aI 0]]/\u9 n.name (sc.take m)=R) sc.length ?_ ?_
 .simp [go_sem, *]
 rintro m U ⟨a2,j,o,p,t,e7,C,I,P⟩;cases m with
 |zero =>
  have a1:R=none:=by rw[<-P];rfl
  subst a1;simp[go_sem,j,o,p,t,e7,C,I,qZ];refine fG [0,1,4,2,3] [(2,1,[1]),(3,1,[])] zKr zKr zSi ?_;simp[go_sem,j,o,p,t,e7,C,I,qZ]
  grind [kX]
 |succ m =>
  have g:m<sc.length:=zOm;have a3:(0:Int)<=((m+1:Nat):Int)-1:=zOm;have T:((m+1:Nat):Int)-1=(m:Int):=zOm;rw[T]at C;rw[wd g,Wn]at P;have w1:qo.wrap ((m:Int)-1)=(m:Int)-1:=zWr;have a4:=hz _ (qv g);generalize i:sc[m]=e at *
  by_cases J:e.1=n.name
  .rw [if_pos J]at P
   subst P;have w2:qo.wrap (s.sM+e.2.size)=s.sM+e.2.size:=zWr;simp[go_sem,j,o,p,t,e7,C,I,qZ,g];refine tJ zKr ?_;simp[go_sem,j,o,p,t,e7,C,I,qZ,g,i,J];cases ha:e.2.arg with
   |none =>
    simp[go_sem,j,o,p,t,e7,C,I,qZ,g,i,J,ha];refine fG [0,1,4,2,3] [(2,1,[1]),(3,1,[])] zKr zKr zSi ?_;have a0:(cNd n).set 1 (AV.sc (.string e.2.name))=cNd (.mk n.op e.2.name n.n n.sD n.pos):=by rw[jp n,jp];rfl
    rw[a0];simp[go_sem,j,o,p,t,e7,C,I,qZ]
    grind [kX]
   |some a =>
    simp[go_sem,j,o,p,t,e7,C,I,qZ,g,i,J,ha];refine fG [0,1,2,3,4,5,6,7,8,9] [(9,1,[])] zKr zKr zSi ?_;simp[go_sem,j,o,p,t,e7,C,I,qZ,g,i,J,ha,w2];refine fG [0,1,2,3,4,5,6,7,8,9,10,13,11,12] [(11,1,[5,10]),(12,1,[10])] zKr zKr zSi ?_;simp[go_sem,j,o,p,t,e7,C,I,qZ,g,i,J,ha,w2]
    grind [kX,payS]
  .rw [if_neg J]at P
   simp[go_sem,j,o,p,t,e7,C,I,qZ,g];refine tJ zKr ?_;simp[go_sem,j,o,p,t,e7,C,I,qZ,g,i,j0 J,w1];exact⟨m,zOm,aM ⟨zOm,zS1 j,zS1 o,zS1 p,zS1 t,by simp[go_sem,e7],zSi,zS1 I,P⟩⟩
theorem kY:∀ m n,szN n<=m->Small n->depN n<=1000000->qj qg 158 [eNd n] (aI (depN n))
 | 0,n,P,_,_=>by obtain⟨op,nm,i,ks,p⟩:=n;simp[szN]at P
 |m+1,n,P,R,T=>by
  have ih:∀ k,k∈n.sD->qj qg 158 [eNd k] (aI (depN k)):=fun k j =>
   kY m k (zW1 (zl j)) (R.kid j) (by rw[Zw]at T;have:=qcA j;omega)
  rw[Zw]at T⊢;have a0:=R.len;have a1:=U0 n.sD;generalize hD:yw n.sD=D at *
  refine qSU call158 func158 rfl ?_;refine aP n.sD.length (fun k U=>∃ d,U.tm 3=aI d/\U.tm 1 = .ip (cNd n)/\U.tm 4=aI k/\0<=d/\max d (yw (n.sD.drop k))=D) ?_ ?_
  .exact ⟨0,zSi,zSi,zSi,zOm,by grind⟩
  .rintro k U j ⟨d,t,l,C,a2,o⟩
   by_cases I:k=n.sD.length
   .subst I
    rw[yf]at o;simp only[yw]at o;have J:d=D:=zOm;subst J;have w:qo.wrap (d+1)=d+1:=zWr;simp[go_sem,t,l,C,w];exact .zsc _
   .have g:k<n.sD.length:=by omega
    have w1:=zWk k;rw[ze g]at o;simp only[yw]at o;simp[go_sem,t,l,C,g,qZ];refine t8 (ih n.sD[k] (qv g)) (.zk (qE _) .nil) ?_;simp[go_sem,t,l,C,w1];refine⟨g,aM ?_⟩;refine⟨if d<depN n.sD[k] then depN n.sD[k] else d,zSi,zS1 l,zSi,?_,?_⟩
    .omega
    omega
end QX
namespace FE
open Y1 Y9
def yx(op a s:Int)(i:Nat)(k:Int):Int:=if op=48\/op=49\/op=51 then k*s else if i=1/\(op=45\/op=46\/op=15) then k*a else k
def minW(v:Int):Int:=if 1000000<v then 1000000 else v
mutual
def wkN(a s:Int):Nd->Int
 | .mk op _ _ ks _=>wkNs a s op 0 ks 1
def wkNs(a s op:Int):Nat->List Nd->Int->Int
 |_,[],sum=>sum
 |i,k :: ks,sum=>wkNs a s op (i+1) ks (minW (sum+yx op a s i (wkN a s k)))
end
theorem qrL(a s n):wkN a s n=wkNs a s n.op 0 n.sD 1:=by
 obtain⟨op,nm,i,ks,q⟩:=n;rw[wkN];rfl
theorem qeV{op a s i k}(j:0<=a/\a<=100)(l:0<=s/\s<=100)(g:0<=k/\k<=1000000):0<=yx op a s i k/\yx op a s i k<=100000000:=by
 unfold yx;have o:=Int.mul_nonneg g.1 j.1;have p:=Int.mul_nonneg g.1 l.1;have t:k*a<=1000000*100:=jv g.2 j.2 j.1 zOm;have C:k*s<=1000000*100:=jv g.2 l.2 l.1 zOm;split
 .omega
 omega
theorem qeW{v}(h:0<=v):0<=minW v/\minW v<=1000000:=by unfold minW;split<;>omega
mutual
theorem qeX(a s:Int)(g:0<=a/\a<=100)(i:0<=s/\s<=100):∀ n:Nd,0<=wkN a s n/\wkN a s n<=1000000
 | .mk op _ _ ks _=>by rw[wkN];exact qeY a s g i op ks 0 1 zOm
theorem qeY(a s:Int)(g:0<=a/\a<=100)(j:0<=s/\s<=100)(op:Int):∀(ks:List Nd)(i:Nat)(sum:Int),0<=sum/\sum<=1000000->0<=wkNs a s op i ks sum/\wkNs a s op i ks sum<=1000000
 | [],_,sum,h=>by rw[wkNs];exact h
 |k :: ks,i,sum,h=>by
  rw[wkNs];have l:=qeX a s g j k;have o:=qeV (op:=op) (i:=i) g j l;exact qeY a s g j op ks (i+1) _ (qeW zOm)
end
theorem kZ(a s)(ha:0<=a/\a<=100)(hs:0<=s/\s<=100):∀ m n,szN n<=m->Small n->qj qg 34 [eNd n,aI a,aI s] (aI (wkN a s n))
 | 0,n,hm,_=>by obtain⟨op,nm,i,ks,p⟩:=n;simp[szN]at hm
 |m+1,n,hm,a7=>by
  have ih:∀ k,k∈n.sD->qj qg 34 [eNd k,aI a,aI s] (aI (wkN a s k)):=fun k hk=>kZ a s ha hs m k (zW1 (zl hk)) (a7.kid hk)
  rw[qrL];have a9:=a7.len;generalize hR:wkNs a s n.op 0 n.sD 1=R;refine qSU call34 func34 rfl ?_;refine aP n.sD.length (fun k U=>∃ sum:Int,U.tm 1=aI a/\U.tm 2=aI s/\U.tm 3 = .ip (cNd n)/\U.tm 7=aI sum/\U.tm 8=aI k/\(0<=sum/\sum<=1000000)/\wkNs a s n.op k (n.sD.drop k) sum=R) ?_ ?_
  .simp [go_sem, *]
  .rintro k U hk ⟨sum,t,C,I,e7,e8,aa,o⟩
   by_cases a8:k=n.sD.length
   .subst a8
    rw[yf,wkNs]at o;subst o;simp[go_sem,t,C,I,e7,e8];exact .zsc _
   .have l:k<n.sD.length:=by omega
    rw[ze l,wkNs]at o;have w1:=zWk k;have a3:=qeX a s ha hs n.sD[k];have ab:=qeV (op:=n.op) (i:=k) ha hs a3;have j:=qeW (v:=sum+yx n.op a s k (wkN a s n.sD[k])) zOm;have m1:=Int.mul_nonneg a3.1 ha.1;have m2:=Int.mul_nonneg a3.1 hs.1;have m3:wkN a s n.sD[k] * a<=1000000*100:=jv a3.2 ha.2 ha.1 zOm;have m4:wkN a s n.sD[k] * s<=1000000*100:=jv a3.2 hs.2 hs.1 zOm;simp[go_sem,t,C,I,e7,e8,l,qZ];refine t8 (ih n.sD[k] (qv l)) (.zk (qE _) (.zs (.zs .nil))) ?_;generalize wkN a s n.sD[k]=K at *
    by_cases J:k=1
    .have g:(k:Int)=1:=by omega
     by_cases a0:n.op=48
     .have P:yx n.op a s k K=K*s:=by simp[yx,a0,J,g]
      rw[P]at o j;have w2:qo.wrap (K*s)=K*s:=zWr;have T:qo.wrap (sum+K*s)=sum+K*s:=zWr;simp[go_sem,t,C,I,e7,e8,w1,w2,T,l,a0,eq_true J,eq_true g];simp_all[go_sem,aM,minW]
     by_cases a1:n.op=49
     .have P:yx n.op a s k K=K*s:=by simp[yx,a1,J,g]
      rw[P]at o j;have w2:qo.wrap (K*s)=K*s:=zWr;have T:qo.wrap (sum+K*s)=sum+K*s:=zWr;simp[go_sem,t,C,I,e7,e8,w1,w2,T,l,a1,eq_true J,eq_true g];exact aM ⟨_,zS1 t,zS1 C,zS1 I,by simp[go_sem,minW],zSi,j,o⟩
     by_cases a2:n.op=51
     .have P:yx n.op a s k K=K*s:=by simp[yx,a2,J,g]
      rw[P]at o j;have w2:qo.wrap (K*s)=K*s:=zWr;have T:qo.wrap (sum+K*s)=sum+K*s:=zWr;simp[go_sem,t,C,I,e7,e8,w1,w2,T,l,a2,eq_true J,eq_true g];exact aM ⟨_,zS1 t,zS1 C,zS1 I,by simp[go_sem,minW],zSi,j,o⟩
     by_cases a4:n.op=45
     .have P:yx n.op a s k K=K*a:=by simp[yx,a4,J,g]
      rw[P]at o j;have w2:qo.wrap (K*a)=K*a:=zWr;have T:qo.wrap (sum+K*a)=sum+K*a:=zWr;simp[go_sem,t,C,I,e7,e8,w1,w2,T,l,a4,eq_true J,eq_true g];exact aM ⟨_,zS1 t,zS1 C,zS1 I,by simp[go_sem,minW],zSi,j,o⟩
     by_cases a5:n.op=46
     .have P:yx n.op a s k K=K*a:=by simp[yx,a5,J,g]
      rw[P]at o j;have w2:qo.wrap (K*a)=K*a:=zWr;have T:qo.wrap (sum+K*a)=sum+K*a:=zWr;simp[go_sem,t,C,I,e7,e8,w1,w2,T,l,a5,eq_true J,eq_true g];exact aM ⟨_,zS1 t,zS1 C,zS1 I,by simp[go_sem,minW],zSi,j,o⟩
     by_cases a6:n.op=15
     .have P:yx n.op a s k K=K*a:=by simp[yx,a6,J,g]
      rw[P]at o j;have w2:qo.wrap (K*a)=K*a:=zWr;have T:qo.wrap (sum+K*a)=sum+K*a:=zWr;simp[go_sem,t,C,I,e7,e8,w1,w2,T,l,a6,eq_true J,eq_true g];exact aM ⟨_,zS1 t,zS1 C,zS1 I,by simp[go_sem,minW],zSi,j,o⟩
     have P:yx n.op a s k K=K:=by simp[yx,a0,a1,a2,a4,a5,a6,J,g]
     rw[P]at o j;have w2:=w1;have T:qo.wrap (sum+K)=sum+K:=zWr;simp[go_sem,t,C,I,e7,e8,w1,w2,T,l,a0,a1,a2,a4,a5,a6,eq_true J,eq_true g];simp_all[go_sem,aM,minW]
    .have g:¬(k:Int)=1:=by omega
     by_cases a0:n.op=48
     .have P:yx n.op a s k K=K*s:=by simp[yx,a0,J,g]
      rw[P]at o j;have w2:qo.wrap (K*s)=K*s:=zWr;have T:qo.wrap (sum+K*s)=sum+K*s:=zWr;simp[go_sem,t,C,I,e7,e8,w1,w2,T,l,a0,J,g];exact aM ⟨_,zS1 t,zS1 C,zS1 I,by simp[go_sem,minW],zSi,j,o⟩
     by_cases a1:n.op=49
     .have P:yx n.op a s k K=K*s:=by simp[yx,a1,J,g]
      rw[P]at o j;have w2:qo.wrap (K*s)=K*s:=zWr;have T:qo.wrap (sum+K*s)=sum+K*s:=zWr;simp[go_sem,t,C,I,e7,e8,w1,w2,T,l,a1,J,g];exact aM ⟨_,zS1 t,zS1 C,zS1 I,by simp[go_sem,minW],zSi,j,o⟩
     by_cases a2:n.op=51
     .have P:yx n.op a s k K=K*s:=by simp[yx,a2,J,g]
      rw[P]at o j;have w2:qo.wrap (K*s)=K*s:=zWr;have T:qo.wrap (sum+K*s)=sum+K*s:=zWr;simp[go_sem,t,C,I,e7,e8,w1,w2,T,l,a2,J,g];exact aM ⟨_,zS1 t,zS1 C,zS1 I,by simp[go_sem,minW],zSi,j,o⟩
     have P:yx n.op a s k K=K:=by simp[yx,a0,a1,a2,J,g]
     rw[P]at o j;have w2:=w1;have T:qo.wrap (sum+K)=sum+K:=zWr;simp[go_sem,t,C,I,e7,e8,w1,w2,T,l,a0,a1,a2,J,g];exact aM ⟨_,zS1 t,zS1 C,zS1 I,by simp[go_sem,minW],zSi,j,o⟩
end FE
set_option maxHeartbeats 1000000
namespace OI
open Y1 Y9 E1 E4 GF Q4
def RlOk(r:Rl):Prop:=r.ts.length<=1000000/\zp r.ts
def BdOk(b:Bd):Prop:=RlOk b.lo/\RlOk b.up
def insB(a b:Bd):Bool:=decide (a.lo.ar=b.lo.ar)&&(inOk b.lo a.lo&&inOk a.up b.up)
theorem qrM(a b)(i:BdOk a)(j:BdOk b):qj qg 26 [eBd a,eBd b] (aB (insB a b)):=by
 obtain⟨⟨t,l⟩,C,I⟩:=i;obtain⟨⟨J,P⟩,R,o⟩:=j;have c1:=in06 b.lo a.lo zOm zOm l;have c2:=in06 a.up b.up zOm zOm o;refine qSV call26 func26 rfl ?_;unfold insB;by_cases h:a.lo.ar=b.lo.ar
 .obtain ⟨⟨p,g⟩,T⟩:=a
  simp only at h c1 c2⊢;subst h;simp[go_sem];refine t8 c1 (.zk (qr _) (.zk (qr ⟨b.lo.ar,g⟩) .nil)) ?_;cases inOk b.lo ⟨b.lo.ar,g⟩ with
  |true =>
   simp[go_sem];refine fW c2 (.zk (qr _) (.zk (qr _) .nil)) ?_;exact .zsc _
  |false =>
   simp[go_sem];exact .zsc _
 .simp [go_sem,h]
  exact .zsc _
theorem qrN(a b)(hl:a.length<=1000000)(P:∀ x,x∈a->x.lo.ts.length<=1000000/\x.up.ts.length<=1000000):qj qg 25 [lBd a,lBd b] (aB (decide (a=b))):=by
 refine qSV call25 func25 rfl ?_;by_cases h:a.length=b.length
 .generalize I:decide (a=b)=R
  simp[go_sem,h];refine aP a.length (fun k U=>U.tm 0=lBd a/\U.tm 1=lBd b/\U.tm 5=aI k/\decide (a.drop k=b.drop k)=R) ?_ ?_
  .exact ⟨zSi,zSi,zSi,zUs I⟩
  rintro k U hk ⟨l,o,p,j⟩;by_cases i:k<a.length
  .have g:k<b.length:=by omega
   have T:=zWk k;have hA:=P _ (qv i);rw[ze i,ze g]at j;have c1:=mK a[k].lo b[k].lo zOm;have c2:=mK a[k].up b[k].up zOm;simp[go_sem,l,o,p,h,g];refine fG [0,1,2,3,4,5,6,7,8,9,10,11,12,13,14,15,16,17,18,19,20,21,22,23,24,25] [(10,1,[]),(23,1,[])] zKr zKr zSi ?_;simp[go_sem,l,o,p,i,g];refine t8 c1 (.zk (qr _) (.zk (qr _) .nil)) ?_;by_cases g1:a[k].lo=b[k].lo
   .simp [go_sem,l,o,p,i,g,g1]
    refine t8 c2 (.zk (qr _) (.zk (qr _) .nil)) ?_;by_cases t:a[k].up=b[k].up
    .have g3:a[k]=b[k]:=by
      generalize a[k]=x at *
      generalize b[k]=y at *
      cases x;cases y;simp only at g1 t;rw[g1,t]
     rw[g3]at j;simp[go_sem,l,o,p,T,t];refine⟨g,aM ?_⟩;exact⟨zS1 l,zS1 o,zSi,by rw[<-j];exact decide_eq_decide.2 ⟨fun e=>by rw[e],fun e=>(List.cons.inj e).2⟩⟩
    .have C:R=false:=by
      rw[<-j,decide_eq_false_iff_not];intro e;rw[vK]at e;exact t (by rw[e.1])
     subst C;simp[go_sem,t];exact .zsc _
   .have C:R=false:=by
     rw[<-j,decide_eq_false_iff_not];intro e;rw[vK]at e;exact g1 (by rw[e.1])
    simp[go_sem,l,o,p,i,g,g1];rw[C];exact .zsc _
  .have J:k=a.length:=by omega
   subst J;rw[yf,List.drop_of_length_le zOm]at j;simp at j;subst j;simp[go_sem,l,p,h];exact .zsc _
 .have C:decide (a=b)=false:=by
   rw[decide_eq_false_iff_not];intro e;exact h (by rw[e])
  rw[C];simp[go_sem,h];exact .zsc _
theorem qeZ:∀ m n,szN n<=m->∀ left,-1000000<=left/\left<=1000000->qj qg 145 [eNd n,aI left] (aI (cntN n left))
 | 0,n,P,_,_=>by obtain⟨op,nm,i,ks,p⟩:=n;simp[szN]at P
 |m+1,n,P,left,hl=>by
  have ih:∀ k,k∈n.sD->∀ left:Int,-1000000<=left/\left<=1000000->qj qg 145 [eNd k,aI left] (aI (cntN k left)):=fun k T =>
   qeZ m k (zW1 (zl T))
  rw[Km];generalize hR:yM n.sD left 1=R;refine qSU call145 func145 rfl ?_;refine aP n.sD.length (fun k U=>∃ sum:Int,U.tm 1=aI left/\U.tm 2 = .ip (cNd n)/\U.tm 5=aI sum/\U.tm 6=aI k/\(k:Int)+1<=sum/\(sum<=left+1\/sum=1)/\yM (n.sD.drop k) left sum=R) ?_ ?_
  .exact ⟨1,zSi,zSi,zSi,zSi,zOm,zOm,zUs hR⟩
  .rintro k U T ⟨sum,l,o,t,C,a0,a1,j⟩
   by_cases J:k=n.sD.length
   .subst J
    rw[yf]at j;simp only[yM]at j;subst j;simp[go_sem,l,o,t,C];exact .zsc _
   .have g:k<n.sD.length:=by omega
    rw[ze g]at j;simp only[yM]at j;by_cases I:sum<=left
    .rw [if_pos I]at j
     have w1:=zWk k;have w2:qo.wrap (left-sum)=left-sum:=zWr;have a2:=UU n.sD[k] (left-sum);have w3:qo.wrap (sum+cntN n.sD[k] (left-sum))=sum+cntN n.sD[k] (left-sum):=zWr;simp[go_sem,l,o,t,C,g,I,w2,qZ];refine t8 (ih n.sD[k] (qv g) (left-sum) ⟨zOm,zOm⟩) (.zk (qE _) (.zs .nil)) ?_;simp[go_sem,l,o,t,C,w1,w3];refine⟨g,aM ?_⟩;exact⟨sum+cntN n.sD[k] (left-sum),zS1 l,zS1 o,zSi,zSi,zOm,zOm,j⟩
    .rw [if_neg I]at j
     subst j;simp[go_sem,l,o,t,C,g,I];exact .zsc _
theorem qrO(n left)(g : -1000000<=left/\left<=1000000):qj qg 65 [eNd n,aI left] (aB (decide (cntN n left<=left))):=by
 refine qSU call65 func65 rfl ?_;refine fW (qeZ _ n (qn _) left g) (.zk (qE _) (.zs .nil)) ?_;exact .zsc _
end OI
namespace E6
end E6
namespace ED
end ED
namespace EG
end EG
namespace EH
end EH
namespace FJ
end FJ
namespace IA
end IA
end Go.Proofs.YthflbhjlkgdafaaGreatDoor
