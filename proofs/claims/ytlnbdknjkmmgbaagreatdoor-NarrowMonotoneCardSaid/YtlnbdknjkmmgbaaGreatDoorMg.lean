/-
  Own library, part 7: an abstract reading of values and a calculus over it; contracts of functions; plain lemmas.
-/
import Derived.Test.YtlnbdknjkmmgbaaGreatDoorMf
set_option linter.unusedVariables false
set_option linter.unusedSimpArgs false
set_option maxRecDepth 100000
open Go.Proofs.Tryz renaming prog->qc
open List renaming getElem?_eq_some_iff->qh,mem_map->qn,range->qs,getElem_mem->qt,mem_cons->qy,getElem?_set_self->qz,getElem?_eq_getElem->qB,getElem?_append_left->qG,not_mem_nil->qK,replicate->qM,mem_cons_of_mem->qN,mem_append->qO,mem_singleton->qS,mem_cons_self->qZ,all_eq_true->q8,drop_eq_getElem_cons->zg,length_append->zh,take_length->zi,map_append->zx,append_assoc->zG,drop_length->zU,take_of_length_le->zY,getElem?_append_right->yd,mem_range->ye,append_nil->yg,length_cons->yh,length_map->yu,nil_append->jk,take_succ_eq_append_getElem->uL,flatMap_cons->uM,getElem?_eq_none->wH
open Nat renaming le_refl->qj,le_trans->zS,zero_add->yM
open Go.IntKind renaming i64->ql
open Option.some renaming injEq->qo
open Bool renaming and_eq_true->qD,eq_iff_iff->Ql
open Int renaming mul_le_mul->jl,tmod_eq_emod_of_nonneg->uq
open List.cons renaming injEq->uc
namespace Go.Proofs.YtlnbdknjkmmgbaaGreatDoor
open Go Go.Ev Go.Proofs Tryz
namespace QD
open YF P1 Y1 Y2
section
variable {x:tZ×Bool}{c:List AV}{i:Nat}
def atF(a:Int):List Int->Int
 | []=>a
 |x :: l=>atF (ql.wrap (ql.wrap (4*a)+x)) l
def zs:List AV:=qM 64 (aB false)
def oneC(l:List Int):List AV:=aI l.length :: (if 0<=atF 0 l/\atF 0 l<64 then zs.set (atF 0 l).toNat (aB true) else zs)
structure SetC (c:List AV):Prop where
 len:c.length=65
 sc:∀ x,x∈c->x.one=true/\HF x
theorem SetC.one(h:SetC c):∀ x,x∈c->x.one=true:=fun x g=>(h.sc x g).1
theorem SetC.hf(h:SetC c):HF (.agg c):=HF.agg fun x g=>(h.sc x g).2
theorem SetC.take(h:SetC c):List.take 65 c=c:=zY (by rw[h.len];omega)
theorem SetC.put{d}(h:SetC c)(g:SetC d):putCells c 0 d=d:=by
 rw[y7 _ _ _ (by rw[h.len,g.len];omega)];simp[h.len,g.len,List.drop_of_length_le]
theorem SetC.zero:SetC (aI 0 :: zs):=⟨rfl,fun x g=>by
 rcases qy.1 g with rfl|g
 .exact ⟨rfl,HF.sc _⟩
 .rw [List.eq_of_mem_replicate g];exact⟨rfl,HF.sc _⟩⟩
theorem SetC.oneC(l):SetC (oneC l):=by
 have i:∀ x:AV,x∈zs->x.one=true/\HF x:=fun x g=>by rw[List.eq_of_mem_replicate g];exact⟨rfl,HF.sc _⟩
 unfold QD.oneC;split
 .refine ⟨by simp[zs],fun x g=>?_⟩
  rcases qy.1 g with rfl|g
  .exact ⟨rfl,HF.sc _⟩
  .rcases List.mem_or_eq_of_mem_set g with h|rfl
   .exact i x h
   .exact ⟨rfl,HF.sc _⟩
 .refine ⟨by simp[zs],fun x g=>?_⟩
  rcases qy.1 g with rfl|g
  .exact ⟨rfl,HF.sc _⟩
  .exact i x g
theorem oneU(l)(hl:l.length<=140737488351232):qg qc 171 [lI l] (.agg (oneC l)):=by
 have g:=SetC.oneC l;generalize I:oneC l=R at *
 unfold oneC at I;refine qSU call171 func171 rfl ?_;have i:zs.length=64:=rfl;refine aA l.length (fun k U=>∃ a:Int,U.tm 0=lI l/\U.tm 2 = .ptr 0 0/\U.tm 3 = .ptr 1 0/\U.tm 4=aI a/\U.tm 5=aI k/\U.mu=[.arr (aI 0 :: zs),.arr (aI l.length :: zs)]/\atF a (l.drop k)=atF 0 l) ?_ ?_
 .exact ⟨0,zSi,zSi,zSi,zSi,zSi,by simp[go_sem,zs,qM],rfl⟩
 rintro k U hk ⟨a,J,t,e3,e4,e5,hm,hI⟩;by_cases P:k<l.length
 .have w1:=zWk k
  rw[zg P]at hI;simp[go_sem,J,e4,e5,hm,P,w1];exact aC ⟨_,zS1 J,zS1 t,zS1 e3,zSi,zSi,zSi,hI⟩
 have a1:k=l.length:=zOm;subst a1;rw[zU]at hI;have ha:a=atF 0 l:=hI;rw[<-ha]at I;have z1:∀ x:AV,(x :: zs).length=65:=fun x=>rfl
 have o:∀ x:AV,x∈zs->x.one=true:=fun x hx=>by rw[List.eq_of_mem_replicate hx];rfl
 have tk:List.take 64 zs=zs:=rfl;have pc:∀(x y:AV)(Z:List AV),Z.length=64->putCells (x :: zs) 0 (y :: Z)=y :: Z:=fun x y Z hZ=>by
  grind [y7,List.drop_of_length_le]
 by_cases h0:0<=a
 .obtain ⟨j,rfl⟩:∃ j:Nat,a=j:=⟨a.toNat,zOm⟩
  by_cases C:(j:Int)<64
  .have hj:1+j<=64:=by omega
   have a2:∀ x:AV,(x :: zs).set (1+j) (AV.sc (Value.bool true))=x :: zs.set j (AV.sc (Value.bool true)):=fun x=>by rw[Nat.add_comm];rfl
   have sl:(zs.set j (AV.sc (Value.bool true))).length=64:=zP1 i;have T:∀ x:AV,x∈zs.set j (AV.sc (Value.bool true))->x.one=true:=fun x hx=>by
    rcases List.mem_or_eq_of_mem_set hx with h|rfl
    .exact o x h
    .rfl
   have a0:List.take 64 (zs.set j (AV.sc (Value.bool true)))=zs.set j (AV.sc (Value.bool true)):=zY zOm;have p:R=aI l.length :: zs.set j (AV.sc (Value.bool true)):=by rw[<-I,if_pos ⟨h0,C⟩];rfl
   generalize zs.set j (AV.sc (Value.bool true))=Z at *
   simp[go_sem,J,t,e3,e4,e5,hm,h0,C,i,hj,a2,sl,a0,pc _ _ _ sl];rw[if_pos T];simp[go_sem,t,sl,a0];rw[p]at g⊢;exact .hf _ g.hf
  .simp [go_sem,J,t,e3,e4,e5,hm,h0,C,i,tk,pc _ _ _ i]
   rw[if_pos o];simp[go_sem,t,i,tk];have p:R=aI l.length :: zs:=by rw[<-I,zIn]
   rw[p]at g⊢;exact .hf _ g.hf
 .simp [go_sem,J,t,e3,e4,e5,hm,h0,i,tk,pc _ _ _ i]
  rw[if_pos o];simp[go_sem,t,i,tk];have p:R=aI l.length :: zs:=by rw[<-I,zIn]
  rw[p]at g⊢;exact .hf _ g.hf
abbrev NS:=List AV×Nat
variable {s:NS}
def stF(nm:tZ)(f:Fld)(s:NS):NS:=if f.name=nm then (oneC f.sS,s.2+1) else s
def nmF(nm:tZ):List Fld->NS->NS
 | [],s=>s
 |f :: l,s=>nmF nm l (stF nm f s)
def st1(nm:tZ)(i:Nat)(x:tZ×Bool)(s:NS):NS:=if x.1=nm then (oneC [(i:Int)],s.2+1) else s
def st2(nm:tZ)(i:Nat)(x:tZ×Bool)(s:NS):NS:=if x.2=true/\x.1++jT=nm then (oneC [(i:Int)],s.2+1) else s
def st3(nm:tZ)(i:Nat)(x:tZ×Bool)(s:NS):NS:=if x.2=true/\x.1++vr=nm then (oneC [(i:Int),(i:Int)],s.2+1) else s
def nmS(nm:tZ):Nat->List (tZ×Bool)->NS->NS
 |_,[],s=>s
 |i,x :: l,s=>nmS nm (i+1) l (st3 nm i x (st2 nm i x (st1 nm i x s)))
def named(ts:TS)(nm:tZ):NS:=nmS nm 0 ts.sS (nmF nm ts.sA (aI 0 :: zs,0))
theorem qpD{nm f}(h:SetC s.1):SetC (stF nm f s).1:=by
 grind [stF,SetC.oneC]
theorem qdS{nm}(h:SetC s.1):SetC (st1 nm i x s).1:=by
 grind [st1,SetC.oneC]
theorem qdT{nm}(h:SetC s.1):SetC (st2 nm i x s).1:=by
 grind [st2,SetC.oneC]
theorem qdU{nm}(h:SetC s.1):SetC (st3 nm i x s).1:=by
 grind [st3,SetC.oneC]
theorem st_le{nm}:(st3 nm i x (st2 nm i x (st1 nm i x s))).2<=s.2+3:=by
 have g:(st1 nm i x s).2<=s.2+1:=by grind [st1]
 have j:∀ s:NS,(st2 nm i x s).2<=s.2+1:=fun s=>by grind [st2]
 have l:∀ s:NS,(st3 nm i x s).2<=s.2+1:=fun s=>by grind [st3]
 grind
theorem qdV(nm):∀ l s,SetC s.1->SetC (nmF nm l s).1
 | [],_,h=>h
 |f :: l,s,h=>qdV nm l _ (qpD h)
theorem qdW(nm):∀ l i s,SetC s.1->SetC (nmS nm i l s).1
 | [],_,_,h=>h
 |x :: l,i,s,h=>qdW nm l _ _ (qdU (qdT (qdS h)))
theorem kG(ts nm):SetC (named ts nm).1:=qdW nm _ _ _ (qdV nm _ _ SetC.zero)
theorem wk1(i):WK (.lst true [rI i]) (lI [i]):=WK.lst fun r g c j=>by
 grind [qS,HF.sc]
theorem wk2(i j):WK (.lst true [rI i,rI j]) (lI [i,j]):=WK.lst fun r g c l=>by
 rcases qy.1 g with rfl|g
 .grind [qS,HF.sc]
 grind [qS,HF.sc]
structure okNm (ts:TS):Prop where
 so:∀ x,x∈ts.sS->x.1.size<=4611686018427387904
 nso:ts.sS.length<=140737488351232
 nf:ts.sA.length<=140737488351232
 fl:∀ f,f∈ts.sA->f.sS.length<=140737488351232
theorem kH(ts)(ha:okNm ts)(nm):qg qc 200 [eTS ts,aS nm] (.tup [.agg (named ts nm).1,aI (named ts nm).2]):=by
  generalize hR:named ts nm=R;unfold named at hR;refine qSV call200 func200 rfl ?_;have ar:=ha.nf;have au:zs.length=64:=rfl;have av:=ha.nso;simp[go_sem];refine aA ts.sA.length (fun i U=>∃ s:NS,U.tm 1=aS nm/\U.tm 2 = .ip (cTS ts)/\U.tm 4 = .ptr 0 0/\U.tm 6 = .ptr 1 0/\U.tm 7=aI s.2/\U.tm 8=aI i/\U.mu=[.arr (aI 0 :: zs),.arr s.1]/\SetC s.1/\s.2<=i/\nmS nm 0 ts.sS (nmF nm (ts.sA.drop i) s)=R) ?_ ?_
  · exact⟨(aI 0 :: zs,0),zSi,zSi,zSi,zSi,zSi,zSi,by simp[go_sem,zs,qM],SetC.zero,zSp,zUs hR⟩
  clear hR;rintro i U hi ⟨⟨c,k⟩,P,C,e4,T,e7,e8,hm,j,hk,t⟩;have hk:k<=i:=hk;have j:SetC c:=j;by_cases g:i<ts.sA.length
  · have w1:=zWk i
    have w2:=zWk k;rw[zg g]at t;have ho:=oneU ts.sA[i].sS (ha.fl _ (qt g));have I:=SetC.oneC ts.sA[i].sS;by_cases hq:ts.sA[i].name=nm
    · simp[go_sem,P,C,e8,hm,g,hq]
      refine tU ho (.zk (zC _) .nil) ?_;simp[go_sem,T,I.len,j.len,j.put I];rw[if_pos I.one];simp[go_sem,e7,e8,g,w1,w2];exact aC ⟨(oneC ts.sA[i].sS,k+1),zS1 P,zS1 C,zS1 e4,zS1 T,zSi,zSi,zSi,I,zOm,by grind [nmF,stF]⟩
    · simp[go_sem,P,C,e8,hm,g,jG hq,w1]
      exact aC ⟨(c,k),zS1 P,zS1 C,zS1 e4,zS1 T,by simp[go_sem,e7],zSi,zSi,j,zOm,by grind [nmF,stF]⟩
  have a0:i=ts.sA.length:=zOm;subst a0;rw[zU]at t;simp only[nmF]at t;simp[go_sem,C,e8,hm];refine aA ts.sS.length (fun i U=>∃ s:NS,U.tm 1=aS nm/\U.tm 2 = .ip (cTS ts)/\U.tm 4 = .ptr 0 0/\U.tm 6 = .ptr 1 0/\U.tm 7=aI s.2/\U.tm 9=aI i/\U.mu=[.arr (aI 0 :: zs),.arr s.1]/\SetC s.1/\s.2<=ts.sA.length+3*i/\nmS nm i (ts.sS.drop i) s=R) ?_ ?_
  · simp[go_sem, *]
  clear P C e4 T e7 e8 hm j hk t g;rintro i U hi ⟨⟨c,k⟩,P,C,e4,T,e7,e9,hm,j,hk,t⟩;have hk:k<=ts.sA.length+3*i:=hk;have j:SetC c:=j;by_cases g:i<ts.sS.length
  · have w1:=zWk i
    have w2:=zWk k;have w3:ql.wrap ((k:Int)+1+1)=(k:Int)+1+1:=zWr;have w4:ql.wrap ((k:Int)+1+1+1)=(k:Int)+1+1+1:=zWr;rw[zg g]at t;simp only[nmS]at t;have af:=oneU [(i:Int)] zSp;have ag:=oneU [(i:Int),(i:Int)] zSp;have p:=SetC.oneC [(i:Int)];have J:=SetC.oneC [(i:Int),(i:Int)];have ah:=j.put p;have ai:=j.put J;have aj:=p.put p;have ak:=p.put J;have l1:=p.len;have l2:=J.len;have l0:=j.len;have aw:=st_le (nm:=nm) (i:=i) (x:=ts.sS[i]) (s:=(c,k));have al:=qdU (nm:=nm) (i:=i) (x:=ts.sS[i]) (qdT (nm:=nm) (i:=i) (x:=ts.sS[i]) (qdS (nm:=nm) (i:=i) (x:=ts.sS[i]) (s:=(c,k)) j));have a8:=ha.so _ (qt g);have a8:ts.sS[i].1.size<=4611686018427387904:=a8;generalize a9:ts.sS[i]=so at *
    obtain⟨o,sb⟩:=so;have aa:o.size<=9223372036854775801:=by grind
    have ab:o.size<=9223372036854775802:=zOm;generalize hN:st3 nm i (o,sb) (st2 nm i (o,sb) (st1 nm i (o,sb) (c,k)))=N at *
    have an:(o++jT=nm)=(o++(⟨#[95,102,105,114,115,116]⟩:tZ)=nm):=rfl;have ao:(o++vr=nm)=(o++(⟨#[95,110,101,120,116]⟩:tZ)=nm):=rfl;simp only[st1,st2,st3,an,ao]at hN;obtain⟨d1,aq⟩:∃ d,decide (o=nm)=d:=⟨_,rfl⟩;obtain⟨d2,ad⟩:∃ d,decide (o++(⟨#[95,102,105,114,115,116]⟩:tZ)=nm)=d:=⟨_,rfl⟩;obtain⟨d3,ae⟩:∃ d,decide (o++(⟨#[95,110,101,120,116]⟩:tZ)=nm)=d:=⟨_,rfl⟩;have p1:(o=nm)=(d1=true):=by grind
    have p2:(o++(⟨#[95,102,105,114,115,116]⟩:tZ)=nm)=(d2=true):=by grind
    have p3:(o++(⟨#[95,110,101,120,116]⟩:tZ)=nm)=(d3=true):=by grind
    simp only[p1,p2,p3]at hN;have done:∀ l:St,l.tm 1=aS nm->l.tm 2 = .ip (cTS ts)->l.tm 4 = .ptr 0 0->l.tm 6 = .ptr 1 0->l.tm 7=aI N.2->l.tm 9=aI (i+1:Nat)->l.mu=[.arr (aI 0 :: zs),.arr N.1] ->
        Keep (fun U=>∃ s:NS,U.tm 1=aS nm/\U.tm 2 = .ip (cTS ts)/\U.tm 4 = .ptr 0 0/\U.tm 6 = .ptr 1 0/\U.tm 7=aI s.2/\U.tm 9=aI (i+1:Nat)/\U.mu=[.arr (aI 0 :: zs),.arr s.1]/\SetC s.1/\s.2<=ts.sA.length+3*(i+1)/\nmS nm (i+1) (ts.sS.drop (i+1)) s=R) .mk l:=
      fun l a1 a2 a3 a4 a5 a6 a7=>aC ⟨N,a1,a2,a3,a4,a5,a6,a7,al,zOm,t⟩
    cases d1<;>cases d2<;>cases d3<;>cases sb
    all_goals simp only[if_true,if_false,and_false,and_true,reduceCtorEq]at hN
    all_goals simp[go_sem,Y10.jH,P,C,e9,hm,g,a9,aq,ad,ae,w1,aa,ab]
    all_goals repeat' (first
      | (refine tU af (.cons (wk1 _) .nil) ?_
         simp[go_sem,T,ah,aj,l0,l1];rw[if_pos p.one];simp[go_sem,Y10.jH,P,C,e7,e9,g,a9,ad,ae,w1,w2,w3,aa,ab])
      | (refine tU ag (.cons (wk2 _ _) .nil) ?_
         simp[go_sem,T,ai,ak,l0,l1,l2];rw[if_pos J.one];simp[go_sem,e7,e9,g,w1,w2,w3,w4]))
    all_goals try subst hN
    all_goals simp_all[go_sem]
  have a0:i=ts.sS.length:=zOm;subst a0;rw[zU]at t;simp only[nmS]at t;subst t;simp[go_sem,C,e4,T,e7,e9,hm,j.len,j.take,SetC.zero.put j,SetC.zero.len];rw[if_pos j.one];simp[go_sem,e4,j.len,j.take];refine .hf _ (HF.tup fun x hx=>?_);rcases qy.1 hx with rfl|hx
  · exact j.hf
  grind [qS,HF.sc]
end
end QD
namespace QE
open Y6 QD
abbrev RS:=Int×(Nat->Bool)
def hB(g:Nat->Bool):List AV:=(qs 64).map fun i=>aB (g i)
abbrev cRS(s:RS):List AV:=aI s.1 :: hB s.2
abbrev eRS(s:RS):AV := .agg (cRS s)
theorem qr(g):(hB g).length=64:=by simp[hB]
theorem qdX(g i v):(hB g).set i (aB v)=hB fun j=>if j=i then v else g j:=by
 refine List.ext_getElem (by simp[hB]) fun j l o=>?_
 rw[List.getElem_set];simp only[hB,List.getElem_map,List.getElem_range];by_cases h:i=j
 .rw [if_pos h,if_pos h.symm]
 .rw [if_neg h,if_neg (fun e=>h e.symm)]
theorem qpE(g i)(h:i<64):(hB g)[i]?=some (aB (g i)):=by
 simp[hB,h]
theorem uJ{g i}(h:∀ j,j<64->g j=i j):hB g=hB i:=by
 refine List.map_congr_left fun j l=>?_
 rw[h j (ye.1 l)]
theorem setC(s):SetC (cRS s):=⟨by simp[hB],fun x g=>by
 rcases qy.1 g with rfl|g
 .exact ⟨rfl,HF.sc _⟩
 .obtain ⟨j,_,rfl⟩:=qn.1 g
  exact⟨rfl,HF.sc _⟩⟩
theorem yF(s):HF (eRS s):=(setC s).hf
theorem qdY:hB (fun _=>false)=zs:=rfl
def oneS(l:List Int):RS:=(l.length,fun j=>decide ((j:Int)=atF 0 l))
theorem kI(l):oneC l=cRS (oneS l):=by
 unfold oneC oneS;simp only[cRS];split
 .rename_i h
  have e:aB true=aB true:=rfl;rw[<-qdY,qdX];congr 1;refine uJ fun j i=>?_
  by_cases g:j=(atF 0 l).toNat
  .rw [if_pos g];exact(decide_eq_true zOm).symm
  .rw [if_neg g];exact(decide_eq_false zOm).symm
 .rename_i h
  rw[<-qdY];congr 1;refine uJ fun j i=>?_
  exact(decide_eq_false zOm).symm
def szA(k:Int):Nat:=if k<1 then 1 else if k=1 then 4 else if k=2 then 16 else 64
theorem Vk(k):szA k<=64/\1<=szA k:=by unfold szA;split<;>(try split)<;>(try split)<;>omega
theorem Wj(k):qg qc 172 [aI k] (aI (szA k)):=by
 refine qSV call172 func172 rfl ?_;unfold szA;by_cases g:k<1
 .simp [go_sem,g];exact .zsc _
 by_cases i:k=1
 .simp [go_sem,i];exact .zsc _
 by_cases j:k=2
 .simp [go_sem,j];exact .zsc _
 simp[go_sem,g,i,j];exact .zsc _
def uniS(a b:RS):RS:=(a.1,fun j=>a.2 j||b.2 j)
def intS(a b:RS):RS:=(a.1,fun j=>a.2 j&&b.2 j)
theorem g1(x g i)(h:i<64):(x :: hB g)[1+i]?=some (aB (g i)):=by
 rw[Nat.add_comm,List.getElem?_cons_succ,qpE g i h]
theorem d1(x g i)(h:i<64):List.take 1 (List.drop (1+i) (x :: hB g))=[aB (g i)]:=by
 rw[Nat.add_comm,List.drop_succ_cons,zg (by rw[qr];exact h)];simp[hB]
theorem d0(g i)(h:i<64):List.take 1 (List.drop i (hB g))=[aB (g i)]:=by
 rw[zg (by rw[qr];exact h)];simp[hB]
theorem s1(x g i v):(x :: hB g).set (1+i) (aB v)=x :: hB fun j=>if j=i then v else g j:=by
 rw[Nat.add_comm,List.set_cons_succ,qdX]
theorem zb(g):∀ x,x∈hB g->x.one=true:=fun x i=>by
 obtain⟨j,_,rfl⟩:=qn.1 i;rfl
theorem tk(g):List.take 64 (hB g)=hB g:=zY (by rw[qr];exact qj _)
theorem pc(x y g i):putCells (x :: hB g) 0 (y :: hB i)=y :: hB i:=by
 rw[y7 _ _ _ (by simp[qr])];simp[qr,List.drop_of_length_le]
theorem jV(a b):qg qc 231 [eRS a,eRS b] (eRS (uniS a b)):=by
 refine qSQ call231 func231 rfl { mt:=[2] } ?_;simp[go_sem];refine⟨zb _,zb _,?_⟩;refine aA 64 (fun i U=>U.tm 2 = .ptr 0 0/\U.tm 3 = .ip (cRS b)/\U.tm 4 = .ptr 1 0/\U.tm 5=aI i/\U.mu=[.arr (aI a.1 :: hB (fun j=>if j<i then a.2 j||b.2 j else a.2 j)),.arr (aI 0 :: hB fun _=>false)]) ?_ ?_
 .exact ⟨zSi,zSi,zSi,zSi,by simp[go_sem];rfl⟩
 rintro i U hi ⟨p,J,I,P,R⟩;by_cases l:i<64
 .have o:(i:Int)<64:=by omega
  have t:1+i<=64:=zOm;have w1:=zWk i;generalize hG:(fun j=>if j<i then a.2 j||b.2 j else a.2 j)=G at *
  have T:G i=a.2 i:=by rw[<-hG];simp
  have g:∀ v:Bool,v=(a.2 i||b.2 i)->(aI a.1 :: hB G).set (1+i) (aB v)=aI a.1 :: hB (fun j=>if j<i+1 then a.2 j||b.2 j else a.2 j):=fun v hv=>by
   rw[s1];congr 2;funext j;rw[<-hG,hv];by_cases h1:j=i
   .subst h1;simp
   .by_cases h2:j<i
    .simp [h1,h2,show j<i+1 by omega]
    .simp [h1,h2,show ¬j<i+1 by omega]
  have C:=d1 (aI a.1) G i l;have m2:=d0 b.2 i l;have a0:1<=64-i:=zOm;rw[T]at C;cases ha:a.2 i with
  |true =>
   rw[ha]at C g;have hn:=g true zSp;simp[go_sem,p,P,R,l,o,t,qr,C,hn,w1];exact aC ⟨zS1 p,zS1 J,zS1 I,zSi,zSi⟩
  |false =>
   rw[ha]at C g;have hn:=g (b.2 i) zSp;simp[go_sem,p,J,P,R,l,o,t,a0,qr,C,m2,hn,w1];exact aC ⟨zS1 p,zS1 J,zS1 I,zSi,zSi⟩
 .have a1:i=64:=by omega
  subst a1;simp[go_sem,p,I,P,R,qr,tk,pc];rw[if_pos (zb _)];simp[go_sem,I,qr,tk];have e:(aI a.1 :: hB fun j=>if j<64 then a.2 j||b.2 j else a.2 j)=cRS (uniS a b):=by
   exact congrArg (aI a.1 :: ·) (uJ fun j hj=>if_pos hj)
  rw[e];exact .hf _ (yF _)
theorem JW(a b):qg qc 232 [eRS a,eRS b] (eRS (intS a b)):=by
 refine qSQ call232 func232 rfl { mt:=[2] } ?_;simp[go_sem];refine⟨zb _,zb _,?_⟩;refine aA 64 (fun i U=>U.tm 2 = .ptr 0 0/\U.tm 3 = .ip (cRS b)/\U.tm 4 = .ptr 1 0/\U.tm 5=aI i/\U.mu=[.arr (aI a.1 :: hB (fun j=>if j<i then a.2 j&&b.2 j else a.2 j)),.arr (aI 0 :: hB fun _=>false)]) ?_ ?_
 .exact ⟨zSi,zSi,zSi,zSi,by simp[go_sem];rfl⟩
 rintro i U hi ⟨p,J,I,P,R⟩;by_cases l:i<64
 .have o:(i:Int)<64:=by omega
  have t:1+i<=64:=zOm;have w1:=zWk i;generalize hG:(fun j=>if j<i then a.2 j&&b.2 j else a.2 j)=G at *
  have T:G i=a.2 i:=by rw[<-hG];simp
  have g:∀ v:Bool,v=(a.2 i&&b.2 i)->(aI a.1 :: hB G).set (1+i) (aB v)=aI a.1 :: hB (fun j=>if j<i+1 then a.2 j&&b.2 j else a.2 j):=fun v hv=>by
   rw[s1];congr 2;funext j;rw[<-hG,hv];by_cases h1:j=i
   .subst h1;simp
   .by_cases h2:j<i
    .simp [h1,h2,show j<i+1 by omega]
    .simp [h1,h2,show ¬j<i+1 by omega]
  have C:=d1 (aI a.1) G i l;have m2:=d0 b.2 i l;have a0:1<=64-i:=zOm;rw[T]at C;cases ha:a.2 i with
  |false =>
   rw[ha]at C g;have hn:=g false zSp;simp[go_sem,p,P,R,l,o,t,qr,C,hn,w1];exact aC ⟨zS1 p,zS1 J,zS1 I,zSi,zSi⟩
  |true =>
   rw[ha]at C g;have hn:=g (b.2 i) zSp;simp[go_sem,p,J,P,R,l,o,t,a0,qr,C,m2,hn,w1];exact aC ⟨zS1 p,zS1 J,zS1 I,zSi,zSi⟩
 .have a1:i=64:=by omega
  subst a1;simp[go_sem,p,I,P,R,qr,tk,pc];rw[if_pos (zb _)];simp[go_sem,I,qr,tk];have e:(aI a.1 :: hB fun j=>if j<64 then a.2 j&&b.2 j else a.2 j)=cRS (intS a b):=by
   exact congrArg (aI a.1 :: ·) (uJ fun j hj=>if_pos hj)
  rw[e];exact .hf _ (yF _)
def trS(a:RS):RS:=(2,fun j=>decide (j<16)&&a.2 (j % 4*4+j / 4))
theorem qdZ(a):qg qc 235 [eRS a] (eRS (trS a)):=by
 refine qSU call235 func235 rfl ?_;refine⟨zb _,?_⟩;refine aA 16 (fun i U=>U.tm 1 = .ip (cRS a)/\U.tm 2 = .ptr 0 0/\U.tm 3 = .ptr 1 0/\U.tm 4=aI i/\U.mu=[.arr (aI 0 :: hB fun _=>false),.arr (aI 2 :: hB (fun j=>decide (j<16/\j % 4*4+j / 4<i)&&a.2 (j % 4*4+j / 4)))]) ?_ ?_
 .exact ⟨zSi,zSi,zSi,zSi,by simp[go_sem];first|rfl|exact⟨rfl,rfl⟩⟩
 rintro i U hi ⟨e1,o,p,e4,t⟩;by_cases C:i<16
 .have l:(i:Int)<16:=by omega
  have w1:=zWk i;obtain⟨q,hq⟩:∃ q:Nat,q=i % 4*4+i / 4:=⟨_,rfl⟩;have a0:q<16:=zOm;have w2:ql.wrap ((i:Int).tmod 4)=((i % 4:Nat):Int):=by
   rw[uq zOm];rw[zWr];omega
  have w3:ql.wrap (ql.wrap ((i:Int).tmod 4*4)+ql.wrap ((i:Int) / 4))=(q:Int):=by
   have x1:ql.wrap ((i:Int) % 4*4)=(i:Int) % 4*4:=zWr;have x2:ql.wrap ((i:Int) / 4)=(i:Int) / 4:=zWr;rw[uq zOm,x1,x2,zWr];omega
  generalize hG:(fun j=>decide (j<16/\j % 4*4+j / 4<i)&&a.2 (j % 4*4+j / 4))=G at *
  have g:(aI 2 :: hB G).set (1+q) (aB (a.2 i))=aI 2 :: hB (fun j=>decide (j<16/\j % 4*4+j / 4<i+1)&&a.2 (j % 4*4+j / 4)):=by
   rw[s1];refine congrArg (aI 2 :: ·) (uJ fun j hj=>?_);rw[<-hG];by_cases I:j=q
   .have h2:j % 4*4+j / 4=i:=by omega
    rw[if_pos I,h2,decide_eq_true ⟨zOm,zOm⟩];rfl
   .have h2:¬(j<16/\j % 4*4+j / 4=i):=fun h=>I zOm
    rw[if_neg I];have h3:(j<16/\j % 4*4+j / 4<i+1)=(j<16/\j % 4*4+j / 4<i):=propext ⟨fun h=>⟨h.1,zOm⟩,fun h=>⟨h.1,zOm⟩⟩;rw[show decide (j<16/\j % 4*4+j / 4<i+1)=decide (j<16/\j % 4*4+j / 4<i) from decide_eq_decide.2 (by rw[h3])]
  have m2:=d0 a.2 i zOm;have J:(i:Int)<64:=zOm;have P:1<=64-i:=zOm;simp[go_sem,e1,p,e4,t,C,l,J,P,m2,qr,w1,w3,show (q:Int)<64 by omega,show 1+q<=64 by omega,g];exact aC ⟨zS1 e1,zS1 o,zS1 p,zSi,zSi⟩
 .have R:i=16:=by omega
  subst R;have e:hB (fun j=>decide (j<16/\j % 4*4+j / 4<16)&&a.2 (j % 4*4+j / 4))=hB (trS a).2:=by
   refine uJ fun j hj=>?_
   rw[show decide (j<16/\j % 4*4+j / 4<16)=decide (j<16) from decide_eq_decide.2 ⟨fun h=>h.1,fun h=>⟨h,zOm⟩⟩];rfl
  rw[e]at t;have hT:eRS (trS a) = .agg (aI 2 :: hB (trS a).2):=rfl;rw[hT];generalize (trS a).2=T at *
  simp[go_sem,o,p,e4,t,qr,tk,pc];rw[if_pos (zb _)];simp[go_sem,o,qr,tk];exact .hf _ (yF (2,T))
def wW(a b:RS)(j:Nat):Bool:=a.2 (j / szA b.1)&&b.2 (j % szA b.1)
def kJ(a b:RS):RS:=(a.1+b.1,fun j=>decide (j<szA a.1*szA b.1)&&wW a b j)
theorem qpF(f:Nat->Bool)(p v)(i:v=f p):∀ j,(if j=p then v else decide (j<p)&&f j)=(decide (j<p+1)&&f j):=fun j=>by
 by_cases g:j=p
 .subst g;simp[i]
 .rw [if_neg g,show decide (j<p+1)=decide (j<p) from decide_eq_decide.2 zOm]
theorem qd0(a b)(ha:0<=a.1/\a.1<=1000)(hb:0<=b.1/\b.1<=1000):qg qc 234 [eRS a,eRS b] (eRS (kJ a b)):=by
 refine qSV call234 func234 rfl ?_;have w0:ql.wrap (a.1+b.1)=a.1+b.1:=zWr;have ag:=Vk a.1;have ah:=Vk b.1;have ca:=Wj a.1;have cb:=Wj b.1;have hf:∀ j,wW a b j=(a.2 (j / szA b.1)&&b.2 (j % szA b.1)):=fun _=>rfl
 simp[go_sem,qr];refine⟨zb _,zb _,?_⟩;simp[go_sem,w0];refine tU cb (.zs .nil) ?_;generalize hE:kJ a b=E;have aa:E=(a.1+b.1,fun j=>decide (j<szA a.1*szA b.1)&&wW a b j):=hE.symm;clear hE;generalize wW a b=F at *
 generalize szA a.1=sa at *
 generalize szA b.1=n at *
 simp[go_sem];refine aA sa (fun i U=>U.tm 2 = .ip (cRS a)/\U.tm 3 = .ip (cRS b)/\U.tm 4 = .ptr 0 0/\U.tm 5 = .ptr 1 0/\U.tm 6=aI n/\U.tm 7=aI i/\U.mu=[.arr (aI 0 :: hB fun _=>false),.arr (aI (a.1+b.1) :: hB (fun j=>decide (j<i*n)&&F j))]) ?_ ?_
 .exact ⟨zSi,zSi,zSi,zSi,zSi,zSi,by simp[go_sem];first|rfl|exact⟨rfl,rfl⟩⟩
 rintro i U hi ⟨l,C,J,P,o,e7,R⟩;simp[go_sem,l,e7,R];refine tU ca (.zs .nil) ?_;by_cases a7:i<sa
 .have w1:=zWk i
  simp[go_sem,a7];refine aA n (fun k U=>U.tm 2 = .ip (cRS a)/\U.tm 3 = .ip (cRS b)/\U.tm 4 = .ptr 0 0/\U.tm 5 = .ptr 1 0/\U.tm 6=aI n/\U.tm 7=aI i/\U.tm 8=aI k/\U.mu=[.arr (aI 0 :: hB fun _=>false),.arr (aI (a.1+b.1) :: hB (fun j=>decide (j<i*n+k)&&F j))]) ?_ ?_
  .exact ⟨zS1 l,zS1 C,zS1 J,zS1 P,zS1 o,by simp[go_sem,e7],zSi,zSi⟩
  clear l C J P o e7 R;rintro k U hk ⟨l,C,J,P,o,e7,e8,R⟩;by_cases t:k<n
  .have w2:=zWk k
   obtain⟨p,hp⟩:∃ p:Nat,p=i*n+k:=⟨_,rfl⟩;have a8:((i:Int)*n+k)=(p:Int):=by rw[hp];push_cast;rfl
   have ai:i*n<=63*64:=Nat.mul_le_mul zOm zOm;have w3:ql.wrap ((i:Int)*n)=(i:Int)*n:=by
    have:((i*n:Nat):Int)=(i:Int)*n:=by push_cast;rfl
    rw[<-this];exact zWr
   have w4:ql.wrap (p:Int)=(p:Int):=zWr;have a3:F p=(a.2 i&&b.2 k):=by
    rw[hf,hp,Nat.add_comm,Nat.add_mul_div_right _ _ zOm,Nat.add_mul_mod_self_right,Nat.div_eq_of_lt t,Nat.mod_eq_of_lt t,yM]
   have m1:=d0 a.2 i zOm;have m2:=d0 b.2 k zOm;have a0:1<=64-i:=zOm;have a4:1<=64-k:=zOm;have a1:(i:Int)<64:=zOm;have a5:(k:Int)<64:=zOm;have hq:∀ x:AV,(x :: hB (fun j=>decide (j<p)&&F j)).set (1+p) (aB true)=x :: hB (fun j=>if j=p then true else decide (j<p)&&F j):=fun x=>s1 x _ p true
   rw[<-hp]at R;have ab:F p=true->(fun j=>if j=p then true else decide (j<p)&&F j)=(fun j=>decide (j<p+1)&&F j):=fun h=>funext (qpF F p true h.symm)
   have ad:F p=true->∀ x:AV,(x :: hB (fun j=>decide (j<p)&&F j)).set (1+p) (AV.sc (Value.bool true))=x :: hB (fun j=>decide (j<p+1)&&F j):=fun h x=>by rw[<-ab h];exact hq x
   have a6:(F p=false\/64<=p)->hB (fun j=>decide (j<p)&&F j)=hB (fun j=>decide (j<p+1)&&F j):=fun h=>uJ fun j hj=>by
    by_cases h1:j=p
    .rcases h with h|h
     .rw [h1,h];simp
     .omega
    .rw [show decide (j<p+1)=decide (j<p) from decide_eq_decide.2 zOm]
   have done:∀ g:St,g.tm 2 = .ip (cRS a)->g.tm 3 = .ip (cRS b)->g.tm 4 = .ptr 0 0->g.tm 5 = .ptr 1 0->g.tm 6=aI n->g.tm 7=aI i->g.tm 8=aI (k+1:Nat)->g.mu=[.arr (aI 0 :: hB fun _=>false),.arr (aI (a.1+b.1) :: hB (fun j=>decide (j<p+1)&&F j))]->Keep (fun U=>U.tm 2 = .ip (cRS a)/\U.tm 3 = .ip (cRS b)/\U.tm 4 = .ptr 0 0/\U.tm 5 = .ptr 1 0/\U.tm 6=aI n/\U.tm 7=aI i/\U.tm 8=aI (k+1:Nat)/\U.mu=[.arr (aI 0 :: hB fun _=>false),.arr (aI (a.1+b.1) :: hB (fun j=>decide (j<i*n+(k+1))&&F j))]) .mk g:=
    fun g b1 b2 b3 b4 b5 b6 b7 b8=>aC ⟨b1,b2,b3,b4,b5,b6,b7,by rw[b8,hp];rfl⟩
   cases I:a.2 i with
   |false =>
    rw[I]at m1;simp[go_sem,l,o,e7,e8,R,t,qr,m1,a0,a1,w2];exact done _ (zS1 l) (zS1 C) (zS1 J) (zS1 P) (zS1 o) (by simp[go_sem,e7]) zSi (by simp[go_sem,a6 (.inl (by rw[a3,I];rfl))])
   |true =>
    rw[I]at m1;cases a2:b.2 k with
    |false =>
     rw[a2]at m2;simp[go_sem,l,C,o,e7,e8,R,t,qr,m1,m2,a0,a4,a1,a5,w2];exact done _ (zS1 l) (zS1 C) (zS1 J) (zS1 P) (zS1 o) (by simp[go_sem,e7]) zSi (by simp[go_sem,a6 (.inl (by rw[a3,I,a2];rfl))])
    |true =>
     rw[a2]at m2;by_cases a9:(p:Int)<64
     .simp [go_sem,l,C,P,o,e7,e8,R,t,qr,m1,m2,a0,a4,a1,a5,w2,w3,a8,w4,a9,show 1+p<=64 by omega,ad (by rw[a3,I,a2];rfl)]
      exact done _ (zS1 l) (zS1 C) (zS1 J) (zS1 P) (zS1 o) (by simp[go_sem,e7]) zSi zSi
     .simp [go_sem,l,C,o,e7,e8,R,t,qr,m1,m2,a0,a4,a1,a5,w2,w3,a8,w4,a9]
      exact done _ (zS1 l) (zS1 C) (zS1 J) (zS1 P) (zS1 o) (by simp[go_sem,e7]) zSi (by simp[go_sem,a6 (.inr zOm)])
  .have ae:k=n:=by omega
   subst ae;rw[show i*k+k=(i+1)*k by rw[Nat.add_mul,Nat.one_mul]]at R;simp[go_sem,o,e7,e8,R,w1];exact⟨a7,aC ⟨zS1 l,zS1 C,zS1 J,zS1 P,zS1 o,zSi,zSi⟩⟩
 .have af:i=sa:=by omega
  subst af;rw[aa];generalize (fun j=>decide (j<i*n)&&F j)=T at *
  simp[go_sem,J,P,qr,tk,pc];rw[if_pos (zb _)];simp[go_sem,J,qr,tk];exact .hf _ (yF (_,T))
def rowJ(a b:RS)(i g j:Nat):Bool:=(qs g).any fun k=>decide (i / 4*(szA b.1 / 4)+k % (szA b.1 / 4)=j)&&(decide (i % 4=k / (szA b.1 / 4))&&(a.2 i&&b.2 k))
def ZW(a b:RS):RS:=(a.1+b.1-2,fun j=>(qs (szA a.1)).any fun i=>rowJ a b i (szA b.1) j)
theorem qpG(a b i k j):rowJ a b i (k+1) j=(rowJ a b i k j||(decide (i / 4*(szA b.1 / 4)+k % (szA b.1 / 4)=j)&&(decide (i % 4=k / (szA b.1 / 4))&&(a.2 i&&b.2 k)))):=by
 unfold rowJ;rw[List.range_succ,List.any_append];simp
theorem qpH{k}(h:1<=k):4<=szA k:=by unfold szA;split<;>(try split)<;>(try split)<;>omega
theorem u7(a b)(ha:0<=a.1/\a.1<=1000)(hb:1<=b.1/\b.1<=1000):qg qc 233 [eRS a,eRS b] (eRS (ZW a b)):=by
 refine qSV call233 func233 rfl ?_;have w0:ql.wrap (a.1+b.1)=a.1+b.1:=zWr;have ab:ql.wrap (a.1+b.1-2)=a.1+b.1-2:=zWr;have aj:=Vk a.1;have ak:=Vk b.1;have al:=qpH hb.1;have ca:=Wj a.1;have cb:=Wj b.1;have hR:∀ i k j,rowJ a b i (k+1) j=(rowJ a b i k j||(decide (i / 4*(szA b.1 / 4)+k % (szA b.1 / 4)=j)&&(decide (i % 4=k / (szA b.1 / 4))&&(a.2 i&&b.2 k)))):=qpG a b;have ad:∀ i j,rowJ a b i 0 j=false:=fun i j=>rfl
 simp[go_sem,qr];refine⟨zb _,zb _,?_⟩;simp[go_sem,w0,ab];refine tU cb (.zs .nil) ?_;generalize hE:ZW a b=E;have ae:E=(a.1+b.1-2,fun j=>(qs (szA a.1)).any fun i=>rowJ a b i (szA b.1) j):=hE.symm;clear hE;generalize rowJ a b=F at *
 generalize szA a.1=sa at *
 generalize szA b.1=sb at *
 obtain⟨n,hn⟩:∃ n:Nat,n=sb / 4:=⟨_,rfl⟩;have an:1<=n/\n<=16:=zOm;have wn:ql.wrap ((sb:Int) / 4)=(n:Int):=by rw[zWr];omega
 rw[<-hn]at hR;simp[go_sem,wn];refine aA sa (fun i U=>U.tm 2 = .ip (cRS a)/\U.tm 3 = .ip (cRS b)/\U.tm 4 = .ptr 0 0/\U.tm 5 = .ptr 1 0/\U.tm 6=aI n/\U.tm 7=aI i/\U.mu=[.arr (aI 0 :: hB fun _=>false),.arr (aI (a.1+b.1-2) :: hB (fun j=>(qs i).any fun i=>F i sb j))]) ?_ ?_
 .exact ⟨zSi,zSi,zSi,zSi,zSi,zSi,by simp[go_sem];first|rfl|exact⟨rfl,rfl⟩⟩
 rintro i U hi ⟨l,o,C,I,t,e7,hm⟩;simp[go_sem,l,e7,hm];refine tU ca (.zs .nil) ?_;by_cases a9:i<sa
 .have w1:=zWk i
  generalize hP:(fun j=>(qs i).any fun i=>F i sb j)=P at *
  simp[go_sem,a9];refine aA sb (fun k U=>U.tm 2 = .ip (cRS a)/\U.tm 3 = .ip (cRS b)/\U.tm 4 = .ptr 0 0/\U.tm 5 = .ptr 1 0/\U.tm 6=aI n/\U.tm 7=aI i/\U.tm 8=aI k/\U.mu=[.arr (aI 0 :: hB fun _=>false),.arr (aI (a.1+b.1-2) :: hB (fun j=>P j||F i k j))]) ?_ ?_
  .exact ⟨zS1 l,zS1 o,zS1 C,zS1 I,zS1 t,by simp[go_sem,e7],zSi,zS1 ad⟩
  clear l o C I t e7 hm;rintro k U hk ⟨l,o,C,I,t,e7,e8,hm⟩;simp[go_sem,o,e8,hm];refine tU cb (.zs .nil) ?_;by_cases J:k<sb
  .have w2:=zWk k
   obtain⟨p,hp⟩:∃ p:Nat,p=i / 4*n+k % n:=⟨_,rfl⟩;have ao:k % n<n:=Nat.mod_lt _ zOm;have aq:i / 4*n<=15*16:=Nat.mul_le_mul zOm zOm;have y1:((i / 4:Nat):Int)=(i:Int) / 4:=zOm;have y2:((i / 4*n:Nat):Int)=(i:Int) / 4*n:=by rw[<-y1];push_cast;rfl
   have y3:((k % n:Nat):Int)=(k:Int) % n:=rfl;have y4:((k / n:Nat):Int)=(k:Int) / n:=rfl;have af:k / n<=64:=zS (Nat.div_le_self k n) zOm;have x1:ql.wrap ((i:Int) / 4)=(i:Int) / 4:=zWr;have x2:ql.wrap ((i:Int) / 4*n)=(i:Int) / 4*n:=by rw[<-y2];exact zWr
   have x4:ql.wrap ((i:Int) / 4*n+(k:Int) % n)=(p:Int):=by rw[<-y2,<-y3,zWr,hp];push_cast;rfl
   have a8:ql.wrap ((i:Int) / 4*n+(k:Int).tmod n)=(p:Int):=by rw[uq zOm];exact x4
   have x5:ql.wrap ((k:Int) / n)=(k:Int) / n:=by
    rw[<-y4];clear y4;generalize k / n=c at af⊢;exact zWr
   have R:¬n=0:=zOm;have m1:=d0 a.2 i zOm;have m2:=d0 b.2 k zOm;have a0:1<=64-i:=zOm;have a2:1<=64-k:=zOm;have a1:(i:Int)<64:=zOm;have a3:(k:Int)<64:=zOm;have a4:((decide (i % 4=k / n)&&(a.2 i&&b.2 k))=false\/64<=p)->hB (fun j=>P j||F i k j)=hB (fun j=>P j||F i (k+1) j):=fun h=>uJ fun j hj=>by
    rw[hR,<-hp];rcases h with h|h
    .rw [h,Bool.and_false,Bool.or_false]
    .rw [decide_eq_false zOm,Bool.false_and,Bool.or_false]
   have ag:(decide (i % 4=k / n)&&(a.2 i&&b.2 k))=true->∀ x:AV,(x :: hB (fun j=>P j||F i k j)).set (1+p) (AV.sc (Value.bool true))=x :: hB (fun j=>P j||F i (k+1) j):=fun h x=>by
    refine(s1 x _ p true).trans (congrArg (x :: ·) (uJ fun j hj=>?_));rw[hR,<-hp,h,Bool.and_true];by_cases h1:j=p
    .rw [if_pos h1,h1];simp
    .rw [if_neg h1,decide_eq_false (fun e=>h1 e.symm),Bool.or_false]
   have done:∀ g:St,g.tm 2 = .ip (cRS a)->g.tm 3 = .ip (cRS b)->g.tm 4 = .ptr 0 0->g.tm 5 = .ptr 1 0->g.tm 6=aI n->g.tm 7=aI i->g.tm 8=aI (k+1:Nat)->g.mu=[.arr (aI 0 :: hB fun _=>false),.arr (aI (a.1+b.1-2) :: hB (fun j=>P j||F i (k+1) j))]->Keep (fun U=>U.tm 2 = .ip (cRS a)/\U.tm 3 = .ip (cRS b)/\U.tm 4 = .ptr 0 0/\U.tm 5 = .ptr 1 0/\U.tm 6=aI n/\U.tm 7=aI i/\U.tm 8=aI (k+1:Nat)/\U.mu=[.arr (aI 0 :: hB fun _=>false),.arr (aI (a.1+b.1-2) :: hB (fun j=>P j||F i (k+1) j))]) .mk g:=
    fun g b1 b2 b3 b4 b5 b6 b7 b8=>aC ⟨b1,b2,b3,b4,b5,b6,b7,b8⟩
   cases a5:a.2 i with
   |false =>
    rw[a5]at m1;simp[go_sem,l,t,e7,e8,J,qr,x1,x2,R,m1,a0,a1,w2];exact done _ (zS1 l) (zS1 o) (zS1 C) (zS1 I) (zS1 t) (by simp[go_sem,e7]) zSi (by simp[go_sem,a4 (.inl (by rw[a5];simp))])
   |true =>
    rw[a5]at m1;cases a6:b.2 k with
    |false =>
     rw[a6]at m2;simp[go_sem,l,o,t,e7,e8,J,qr,x1,x2,R,m1,m2,a0,a1,a2,a3,w2];exact done _ (zS1 l) (zS1 o) (zS1 C) (zS1 I) (zS1 t) (by simp[go_sem,e7]) zSi (by simp[go_sem,a4 (.inl (by rw[a6];simp))])
    |true =>
     rw[a6]at m2;by_cases hq:i % 4=k / n
     .have a7:(i:Int).tmod 4=(k:Int) / n:=by rw[uq zOm,<-y4,<-hq];rfl
      by_cases aa:(p:Int)<64
      .simp [go_sem,l,o,I,t,e7,e8,J,qr,x1,x2,a8,x5,R,m1,m2,a0,a1,a2,a3,w2,a7,aa,show 1+p<=64 by omega,ag (by rw[decide_eq_true hq,a5,a6];rfl)]
       exact done _ (zS1 l) (zS1 o) (zS1 C) (zS1 I) (zS1 t) (by simp[go_sem,e7]) zSi zSi
      .simp [go_sem,l,o,t,e7,e8,J,qr,x1,x2,a8,x5,R,m1,m2,a0,a1,a2,a3,w2,a7,aa]
       exact done _ (zS1 l) (zS1 o) (zS1 C) (zS1 I) (zS1 t) (by simp[go_sem,e7]) zSi (by simp[go_sem,a4 (.inr zOm)])
     .have a7:¬(i:Int).tmod 4=(k:Int) / n:=fun e=>hq (by rw[uq zOm,<-y4]at e;exact Int.ofNat.inj e)
      simp[go_sem,l,o,t,e7,e8,J,qr,x1,x2,a8,x5,R,m1,m2,a0,a1,a2,a3,w2,a7];exact done _ (zS1 l) (zS1 o) (zS1 C) (zS1 I) (zS1 t) (by simp[go_sem,e7]) zSi (by simp[go_sem,a4 (.inl (by rw[decide_eq_false hq];rfl))])
  .have ah:k=sb:=by omega
   subst ah;simp[go_sem,e7,w1];exact⟨a9,aC ⟨zS1 l,zS1 o,zS1 C,zS1 I,zS1 t,zSi,by simp[go_sem];rw[<-hP]⟩⟩
 .have ai:i=sa:=by omega
  subst ai;rw[ae];generalize (fun j=>(qs i).any fun i=>F i sb j)=T at *
  simp[go_sem,C,I,qr,tk,pc];rw[if_pos (zb _)];simp[go_sem,C,qr,tk];exact .hf _ (yF (_,T))
end QE
namespace QF
open Y2 Y3 P1 P2 QD QE
section
variable {p q:Int}{a b:Kd}{l:List Int}{m ns:Nat}
def dig(k:Int)(j:Nat):List Int:=if k=0 then [] else if k=1 then [(j:Int)] else if k=2 then [((j / 4:Nat):Int),((j % 4:Nat):Int)] else [((j / 16:Nat):Int),((j / 4 % 4:Nat):Int),((j % 4:Nat):Int)]
theorem ZX{k}(h:0<=k/\k<=3)(j):((dig k j).length:Int)=k:=by
 grind [dig]
theorem szA1:szA 1=4:=rfl
theorem szA2:szA 2=16:=rfl
theorem szA3:szA 3=64:=rfl
theorem Vl(h:0<=p/\p<=3):p=0\/p=1\/p=2\/p=3:=by omega
theorem qd1(g:0<=p)(i:0<=q)(h:p+q<=3){j}(l:j<szA (p+q)):j / szA q<szA p/\j % szA q<szA q/\dig (p+q) j=dig p (j / szA q)++dig q (j % szA q):=by
 rcases Vl (p:=p) ⟨g,zOm⟩ with rfl|rfl|rfl|rfl<;>rcases Vl (p:=q) ⟨i,zOm⟩ with rfl|rfl|rfl|rfl<;>first | (exfalso;omega)|skip
 all_goals simp[dig,szA]at l⊢
 all_goals omega
theorem kK(g:0<=p)(j:0<=q)(h:p+q<=3){i k}(l:i<szA p)(o:k<szA q):i*szA q+k<szA (p+q)/\dig (p+q) (i*szA q+k)=dig p i++dig q k:=by
 rcases Vl (p:=p) ⟨g,zOm⟩ with rfl|rfl|rfl|rfl<;>rcases Vl (p:=q) ⟨j,zOm⟩ with rfl|rfl|rfl|rfl<;>first | (exfalso;omega)|skip
 all_goals simp[dig,szA]at l o⊢
 all_goals omega
theorem kL(h:0<=p/\p<=3){i j}(g:i<szA p)(l:j<szA p)(e:dig p i=dig p j):i=j:=by
 rcases Vl h with rfl|rfl|rfl|rfl
 all_goals grind [dig,szA]
 all_goals omega
theorem qd2(h:1<=p/\p<=3){l}(j:(l.length:Int)=p)(g:∀ x,x∈l->0<=x/\x<4):∃ i,i<szA p/\l=dig p i:=by
 match l,j,g with
 | [],j,_=>simp at j;omega
 | [a],j,g =>
  obtain rfl:p=1:=by grind
  have:=g a zSp;exact⟨a.toNat,by rw[szA1];omega,by simp[dig];omega⟩
 | [a,b],j,g =>
  obtain rfl:p=2:=by grind
  have:=g a zSp;have:=g b zSp;exact⟨(a*4+b).toNat,by rw[szA2];omega,by simp[dig];omega⟩
 | [a,b,c],j,g =>
  obtain rfl:p=3:=by grind
  have:=g a zSp;have:=g b zSp;have:=g c zSp;exact⟨(a*16+b*4+c).toNat,by rw[szA3];omega,by simp[dig];omega⟩
 |a :: b :: c :: d :: l,j,_=>simp at j;omega
theorem kM{l'}(h:l.length=l'.length)(g:l.length<=3)(e:pad l=pad l'):l=l':=by
 have i:=ZJ g l.length (qj _);have j:=ZJ (l:=l') zOm l'.length (qj _)
 grind
theorem YY{k}(h:okKd ns k)(g:ns<=4){t:Tp}(j:t∈k.ts):∃ i,i<szA k.ar/\t=pad (dig k.ar i):=by
 obtain⟨l,rfl,o,p⟩:=h.ts t j;obtain⟨i,C,e⟩:=qd2 h.ar o fun x I=>by grind
 grind
def qp(k:Kd):RS:=(k.ar,fun j=>decide (j<szA k.ar/\pad (dig k.ar j)∈k.ts))
theorem yU(k j):(qp k).2 j=true↔j<szA k.ar/\pad (dig k.ar j)∈k.ts:=decide_eq_true_iff
theorem Qf{a b}(g:a.1=b.1)(i:∀ j,j<64->a.2 j=b.2 j):eRS a=eRS b:=by
 simp only[eRS,cRS,g,uJ i]
theorem Vm(h:a.ar=b.ar):eRS (uniS (qp a) (qp b))=eRS (qp (kSum a b)):=by
 refine Qf rfl fun j g=>?_
 rw[Ql,yU];show ((qp a).2 j||(qp b).2 j)=true↔j<szA a.ar/\pad (dig a.ar j)∈uni (uni [] a.ts) b.ts;rw[Bool.or_eq_true,yU,yU,<-h,vL,vL]
 grind
theorem qpL(h:a.ar=b.ar):eRS (intS (qp a) (qp b))=eRS (qp (ZE a b)):=by
 refine Qf rfl fun j g=>?_
 rw[Ql,yU];show ((qp a).2 j&&(qp b).2 j)=true↔j<szA a.ar/\pad (dig a.ar j)∈a.ts.filter fun t=>decide (t∈b.ts)
 rw[qD,yU,yU,<-h,List.mem_filter,decide_eq_true_eq]
 grind
theorem JL{n a b t}:t∈wV n m a b↔∃ x y,x∈a/\y∈b/\conc x n y m 0=t:=by
 unfold wV;rw[vL];simp only[qK,false_or,qn,Prod.exists,Yj]
 grind
theorem JS{l' n}(h:l.length=n)(g:l'.length=m)(i:n<=3)(j:m<=3):conc (pad l) n (pad l') m 0=pad (l++l'):=by
 unfold conc;rw[Nat.sub_zero,List.drop_zero,ZJ zOm n zOm,ZJ zOm m zOm,<-h,<-g,zi,zi]
theorem qpM(P:okKd ns a)(R:okKd ns b)(l:ns<=4)(T:a.ar+b.ar<=3):eRS (kJ (qp a) (qp b))=eRS (qp (uB a b)):=by
 have a0:=P.ar;have a1:=R.ar;have la:=fun i=>ZX (k:=a.ar) zOm i
 have lb:=fun i=>ZX (k:=b.ar) zOm i
 have g:=fun i=>ZX (k:=a.ar+b.ar) zOm i
 refine Qf rfl fun j hj=>?_
 rw[Ql,yU];show (decide (j<szA a.ar*szA b.ar)&&((qp a).2 (j / szA b.ar)&&(qp b).2 (j % szA b.ar)))=true↔j<szA (a.ar+b.ar)/\pad (dig (a.ar+b.ar) j)∈wV a.ar.toNat b.ar.toNat a.ts b.ts;rw[qD,qD,yU,yU,JL,decide_eq_true_eq];constructor
 .rintro ⟨_,⟨t,h2⟩,h4,h5⟩
  have C:=kK (p:=a.ar) (q:=b.ar) zOm zOm T t h4
  grind [szA,Nat.div_add_mod',JS]
 .rintro ⟨t,x,y,U,hy,e⟩
  obtain⟨i,I,rfl⟩:=YY P l U;obtain⟨k,o,rfl⟩:=YY R l hy;rw[JS (zW1 (la i)) (zW1 (lb k)) zOm zOm]at e;have C:=kK (p:=a.ar) (q:=b.ar) zOm zOm T I o;rw[<-C.2]at e;have e2:=kM (zW2 (g (i*szA b.ar+k)) (g j)) (zW1 (g (i*szA b.ar+k))) e;have J:=kL zOm C.1 t e2;have a2:=Vk b.ar;have d1:j / szA b.ar=i:=by rw[<-J,Nat.add_comm,Nat.add_mul_div_right _ _ zOm,Nat.div_eq_of_lt o,yM]
  have d2:j % szA b.ar=k:=by rw[<-J,Nat.add_comm,Nat.add_mul_mod_self_right,Nat.mod_eq_of_lt o]
  rw[d1,d2];refine⟨?_,⟨I,U⟩,o,hy⟩;rw[<-J]
  calc i*szA b.ar+k<i*szA b.ar+szA b.ar:=by omega
   _=(i+1)*szA b.ar:=by rw[Nat.add_mul,Nat.one_mul]
   _<=szA a.ar*szA b.ar:=Nat.mul_le_mul_right _ I
theorem Qw{n a b t}:t∈uA n m a b↔∃ x y,x∈a/\y∈b/\x.getD (n-1) 0=y.getD 0 0/\conc x n y m 1=t:=by
 unfold uA;rw[vL];simp only[qK,false_or,List.mem_filterMap,Prod.exists,Yj];constructor
 .rintro ⟨x,y,⟨i,j⟩,g⟩
  split at g
  .rename_i h;cases g;exact⟨x,y,i,j,h,rfl⟩
  .cases g
 .rintro ⟨x,y,i,j,g,l⟩;exact⟨x,y,⟨i,j⟩,by rw[if_pos g,l]⟩
theorem qpN{u v e f n}(h:u.length+1=n)(g:v.length+1=m)(i:n<=3)(j:m<=3):conc (pad (u++[e])) n (pad ([f]++v)) m 1=pad (u++v):=by
 unfold conc;rw[ZJ zSo (n-1) zSo,ZJ zSo m zSo,List.take_append_of_le_length zOm,zY zOm,zY zSo];rfl
theorem qd3{k}(h:k<3):(pad l).getD k 0=l.getD k 0:=by
 match k,h with
 | 0,_=>rfl
 | 1,_=>rfl
 | 2,_=>rfl
theorem qpQ(g:0<=p/\p<=2){i}(j:i<szA (p+1)):i / 4<szA p/\dig (p+1) i=dig p (i / 4)++[((i % 4:Nat):Int)]:=by
 have:=qd1 (p:=p) (q:=1) g.1 zOm zOm j;rw[szA1]at this;exact⟨this.1,this.2.2⟩
theorem qpR(g:0<=q/\q<=2){k}(i:k<szA (1+q)):k % szA q<szA q/\dig (1+q) k=[((k / szA q:Nat):Int)]++dig q (k % szA q):=by
 have:=qd1 (p:=1) (q:=q) zOm g.1 zOm i;exact⟨this.2.1,this.2.2⟩
theorem qpS(g:0<=q/\q<=2):szA (q+1) / 4=szA q/\szA (q+1)=4*szA q:=by
 rcases (show q=0\/q=1\/q=2 by omega) with rfl|rfl|rfl<;>exact⟨rfl,rfl⟩
theorem qd4(ha:okKd ns a)(hb:okKd ns b)(t:ns<=4)(h3:1<=a.ar+b.ar-2/\a.ar+b.ar-2<=3):eRS (ZW (qp a) (qp b))=eRS (qp (zL a b)):=by
 have a0:=ha.ar;have a3:=hb.ar;obtain⟨p,hp⟩:∃ p,p=a.ar-1:=⟨_,rfl⟩;obtain⟨q,hq⟩:∃ q,q=b.ar-1:=⟨_,rfl⟩;have ea:a.ar=p+1:=zOm;have eb:b.ar=1+q:=zOm;have C:b.ar=q+1:=zOm;have I:a.ar+b.ar-2=p+q:=zOm;have P:=qpS (q:=q) zOm;have hn:szA b.ar / 4=szA q:=by rw[C];exact P.1
 have lp:=fun i=>ZX (k:=p) zOm i
 have lq:=fun i=>ZX (k:=q) zOm i
 have o:=fun i=>ZX (k:=p+q) zOm i
 have A:∀ i,i<szA a.ar->i / 4<szA p/\dig a.ar i=dig p (i / 4)++[((i % 4:Nat):Int)]:=fun i g=>by rw[ea]at g⊢;exact qpQ zOm g
 have B:∀ k,k<szA b.ar->k % szA q<szA q/\dig b.ar k=[((k / szA q:Nat):Int)]++dig q (k % szA q):=fun k l=>by rw[eb]at l⊢;exact qpR zOm l
 have J:∀ i k,i<szA a.ar->k<szA b.ar->i / 4*szA q+k % szA q<szA (p+q)/\(pad (dig a.ar i)).getD (a.ar.toNat-1) 0=((i % 4:Nat):Int)/\(pad (dig b.ar k)).getD 0 0=((k / szA q:Nat):Int)/\conc (pad (dig a.ar i)) a.ar.toNat (pad (dig b.ar k)) b.ar.toNat 1=pad (dig (p+q) (i / 4*szA q+k % szA q)):=fun i k g l=>by
  obtain⟨a1,a2⟩:=A i g;obtain⟨b1,b2⟩:=B k l;have hm:=kK (p:=p) (q:=q) zOm zOm zOm a1 b1;have l1:=lp (i / 4);have l2:=lq (k % szA q);refine⟨hm.1,?_,?_,?_⟩
  .rw [qd3 zOm,a2,show a.ar.toNat-1=(dig p (i / 4)).length by omega];simp
  .rw [qd3 zOm,b2];rfl
  .rw [a2,b2,hm.2];exact qpN zOm zOm zOm zOm
 refine Qf rfl fun j hj=>?_
 rw[Ql,yU];show ((qs (szA a.ar)).any fun i=>(qs (szA b.ar)).any fun k=>decide (i / 4*(szA b.ar / 4)+k % (szA b.ar / 4)=j)&&(decide (i % 4=k / (szA b.ar / 4))&&((qp a).2 i&&(qp b).2 k)))=true↔j<szA (a.ar+b.ar-2)/\pad (dig (a.ar+b.ar-2) j)∈uA a.ar.toNat b.ar.toNat a.ts b.ts;rw[Qw,List.any_eq_true,hn,I];constructor
 .rintro ⟨i,g,h⟩
  obtain⟨k,l,h⟩:=List.any_eq_true.1 h;rw[ye]at g l;rw[qD,qD,qD,decide_eq_true_eq,decide_eq_true_eq,yU,yU]at h;obtain⟨rfl,R,⟨_,h4⟩,_,h5⟩:=h;obtain⟨T,U,j3,j4⟩:=J i k g l;exact⟨T,_,_,h4,h5,by rw[U,j3,R],j4⟩
 .rintro ⟨h1,x,y,hx,hy,R,e⟩
  obtain⟨i,g,rfl⟩:=YY ha t hx;obtain⟨k,l,rfl⟩:=YY hb t hy;obtain⟨T,U,j3,j4⟩:=J i k g l;rw[j4]at e;have e2:=kM (zW2 (o (i / 4*szA q+k % szA q)) (o j)) (zW1 (o (i / 4*szA q+k % szA q))) e;have e3:=kL zOm T h1 e2;rw[U,j3]at R;refine⟨i,ye.2 g,List.any_eq_true.2 ⟨k,ye.2 l,?_⟩⟩;rw[qD,qD,qD,decide_eq_true_eq,decide_eq_true_eq,yU,yU];exact⟨e3,zOm,⟨g,hx⟩,l,hy⟩
theorem qpT(o:okKd ns a)(g:ns<=4)(p:a.ar=2):eRS (trS (qp a))=eRS (qp (kTr a)):=by
 refine Qf rfl fun j J=>?_
 rw[Ql,yU];show (decide (j<16)&&(qp a).2 (j % 4*4+j / 4))=true↔j<16/\pad (dig 2 j)∈uni [] (a.ts.map fun t=>[t.getD 1 0,t.getD 0 0,0]);rw[qD,yU,vL,decide_eq_true_eq,p,szA2];simp only[qK,false_or,qn];constructor
 .rintro ⟨l,P,C⟩
  refine⟨l,_,C,?_⟩
  grind [dig,pad]
 .rintro ⟨l,t,I,e⟩
  obtain⟨i,R,rfl⟩:=YY o g I
  grind [szA2,dig,pad]
theorem kN(h:1<=l.length/\l.length<=3)(g:∀ x,x∈l->0<=x/\x<4):eRS (oneS l)=eRS (qp (kOf l)):=by
 refine Qf rfl fun j R=>?_
 obtain⟨i,o,e⟩:=qd2 (p:=(l.length:Int)) zOm rfl g;have t:atF 0 l=i:=by
  match l,h,g,o,e with
  | [x],_,g,o,e =>
   have:=g x zSp;simp[dig]at e;simp[atF,IntKind.wrap,IntKind.signed,IntKind.bits];omega
  | [x,y],_,g,o,e =>
   have:=g x zSp;have:=g y zSp;simp[dig]at e;simp[atF,IntKind.wrap,IntKind.signed,IntKind.bits];omega
  | [x,y,z],_,g,o,e =>
   have:=g x zSp;have:=g y zSp;have:=g z zSp;simp[dig]at e;simp[atF,IntKind.wrap,IntKind.signed,IntKind.bits];omega
 rw[Ql,yU];show decide ((j:Int)=atF 0 l)=true↔j<szA (l.length:Int)/\pad (dig (l.length:Int) j)∈[pad l];rw[decide_eq_true_eq,t,qS];have I:=fun j=>ZX (k:=(l.length:Int)) zOm j
 constructor
 .intro J
  obtain rfl:j=i:=zOm
  grind
 .rintro ⟨J,P⟩
  have C:=kM (zW1 (I j)) (zW1 (I j)) P;rw[e]at C;have:=kL (p:=(l.length:Int)) zOm J o (by rw[<-e]at C⊢;exact C);omega
end
end QF
namespace QG
open Y2 P1 P2 PB QE QF
section
variable {k:Kd}{ns:Nat}
def Vn(k:Kd):Kd:=kSum k (zL k k)
def itK:Nat->Kd->Kd
 | 0,k=>k
 |i+1,k=>Vn (itK i k)
theorem qpU(h:okKd ns k)(g:k.ar=2):okKd ns (Vn k)/\(Vn k).ar=2:=
 ⟨JR h (JT h h zOm zOm) (by grind [zL]),g⟩
theorem okIt(h:okKd ns k)(g:k.ar=2):∀ i,okKd ns (itK i k)/\(itK i k).ar=2
 | 0=>⟨h,g⟩
 |i+1=>qpU (okIt h g i).1 (okIt h g i).2
abbrev Ed(k:Kd)(u v:Int):Prop:=[u,v,0]∈k.ts
theorem Wk(h:okKd ns k)(o:k.ar=2){t:Tp}(j:t∈k.ts):∃ u v,t=[u,v,0]/\(0<=u/\u<ns)/\(0<=v/\v<ns):=by
 obtain⟨l,rfl,g,i⟩:=h.ts t j
 match l,g,i with
 | [u,v],_,i=>exact⟨u,v,rfl,i u zSp,i v zSp⟩
 | [],g,_=>simp at g;omega
 | [_],g,_=>simp at g;omega
 |_ :: _ :: _ :: _,g,_=>simp at g;omega
theorem qd5(h:okKd ns k)(j:k.ar=2){u v}:[u,v,0]∈(zL k k).ts↔∃ w,Ed k u w/\Ed k w v:=by
 show [u,v,0]∈uA k.ar.toNat k.ar.toNat k.ts k.ts↔_;rw[QF.Qw,j];constructor
 .rintro ⟨x,y,l,o,g,i⟩
  obtain⟨a,b,rfl,_,_⟩:=Wk h j l;obtain⟨c,d,rfl,_,_⟩:=Wk h j o;have g:b=c:=g;have i:[a,d,0]=[u,v,0]:=i
  grind
 .rintro ⟨w,g,i⟩
  exact⟨[u,w,0],[w,v,0],g,i,rfl,rfl⟩
theorem kO(h:okKd ns k)(g:k.ar=2){u v}:Ed (Vn k) u v↔Ed k u v\/∃ w,Ed k u w/\Ed k w v:=by
 unfold Ed Vn;rw[Zl,qd5 h g]
def Path(k:Kd)(n:Nat)(u v:Int):Prop:=∃ f:Nat->Int,f 0=u/\f n=v/\∀ i,i<n->Ed k (f i) (f (i+1))
theorem Path.one{u v}(h:Ed k u v):Path k 1 u v:=⟨fun i=>if i=0 then u else v,rfl,rfl,fun i g=>by
 grind⟩
theorem Path.comp{n m u w v}(h:Path k n u w)(o:Path k m w v):Path k (n+m) u v:=by
 obtain⟨f,f0,fn,hf⟩:=h;obtain⟨g,p,t,C⟩:=o;refine⟨fun i=>if i<n then f i else g (i-n),?_,?_,fun i I=>?_⟩
 .grind
 .grind
 .by_cases j:i+1<n
  .simp only[if_pos j,if_pos (show i<n by omega)];grind
  .by_cases l:i<n
   .have e:i+1=n:=by omega
    simp only[if_neg j,if_pos l]
    grind
   .simp only[if_neg j,if_neg l,show i+1-n=(i-n)+1 by omega]
    grind
theorem mU(h:okKd ns k)(P:k.ar=2)(g:ns<=4):∀ N n u v,n<=N->1<=n->Path k n u v->∃ m,1<=m/\m<=4/\Path k m u v
 | 0,n,u,v,R,T,_=>zOm
 | N+1,n,u,v,R,T,U=>by
  by_cases h4:n<=4
  .grind
  obtain⟨f,f0,fn,hf⟩:=U;have hr:∀ i,i<5->0<=f i/\f i<4:=fun i C=>by
   grind [Wk]
  obtain⟨i,j,a0,hj,e⟩:∃ i j,i<j/\j<5/\f i=f j:=by
   apply Classical.byContradiction;intro l;have o:((qs 5).map f).Nodup:=List.pairwise_map.2 (List.pairwise_lt_range.imp_of_mem fun {a b} ha hb p e=>l ⟨a,b,p,ye.1 hb,e⟩);have:=List.Nodup.length_le_of_subset o (l₂:=[0,1,2,3]) fun x I=>by
    obtain⟨i,C,rfl⟩:=qn.1 I;have:=hr i (ye.1 C);simp;omega
   simp at this
  refine mU h P g N (n-(j-i)) u v zOm zOm ⟨fun x=>if x<i then f x else f (x+(j-i)),?_,?_,fun x I=>?_⟩
  .grind
  .simp only[if_neg (show ¬n-(j-i)<i by omega),show n-(j-i)+(j-i)=n by omega,fn]
  .by_cases t:x+1<i
   .simp only[if_pos t,if_pos (show x<i by omega)];grind
   .by_cases J:x<i
    .have e1:x+1=i:=by omega
     simp only[if_neg t,if_pos J]
     grind
    .simp only[if_neg t,if_neg J,show x+1+(j-i)=(x+(j-i))+1 by omega]
     exact hf _ zOm
theorem Vo(h:okKd ns k)(g:k.ar=2):∀ i u v,Ed (itK i k) u v->∃ n,1<=n/\Path k n u v
 | 0,u,v,j=>⟨1,zOm,.one j⟩
 |i+1,u,v,j=>by
  rcases (kO (okIt h g i).1 (okIt h g i).2).1 j with j|⟨w,l,o⟩
  .exact Vo h g i u v j
  .obtain ⟨n,t,p⟩:=Vo h g i u w l
   obtain⟨m,C,q⟩:=Vo h g i w v o;exact⟨n+m,zOm,p.comp q⟩
theorem Y0(i):Sub (itK i k) (itK (i+1) k):=K0 _ _
theorem qpV(h:okKd ns k)(g:k.ar=2){m u v}(p:1<=m)(t:m<=4)(o:Path k m u v):Ed (itK 4 k) u v:=by
 obtain⟨f,rfl,rfl,hf⟩:=o;have up:∀{u v},Ed (itK 2 k) u v->Ed (itK 4 k) u v:=fun i=>(Y0 3).2 _ ((Y0 2).2 _ i)
 have s1:∀{u w v},Ed (itK 0 k) u w->Ed (itK 0 k) w v->Ed (itK 1 k) u v:=fun a b=>(kO (okIt h g 0).1 (okIt h g 0).2).2 (.inr ⟨_,a,b⟩)
 have j:∀{u w v},Ed (itK 1 k) u w->Ed (itK 1 k) w v->Ed (itK 2 k) u v:=fun a b=>(kO (okIt h g 1).1 (okIt h g 1).2).2 (.inr ⟨_,a,b⟩)
 have l:∀{u v},Ed (itK 0 k) u v->Ed (itK 1 k) u v:=fun i=>(Y0 0).2 _ i
 refine up ?_;rcases (show m=1\/m=2\/m=3\/m=4 by omega) with rfl|rfl|rfl|rfl
 .exact (Y0 1).2 _ (l (hf 0 zOm))
 .exact (Y0 1).2 _ (s1 (hf 0 zOm) (hf 1 zOm))
 .exact j (s1 (hf 0 zOm) (hf 1 zOm)) (l (hf 2 zOm))
 .exact j (s1 (hf 0 zOm) (hf 1 zOm)) (s1 (hf 2 zOm) (hf 3 zOm))
theorem qpW(h:okKd ns k)(g:k.ar=2)(i:ns<=4):U6 (itK 4 k):=fun t l=>by
 have ok:=okIt h g 4;have j:=JT ok.1 ok.1 (by rw[ok.2];omega) (by rw[ok.2];omega);obtain⟨u,v,rfl,_,_⟩:=Wk j (by grind [zL]) l;obtain⟨w,o,C⟩:=(qd5 ok.1 ok.2).1 l;obtain⟨n,I,p⟩:=Vo h g 4 u w o;obtain⟨m,J,q⟩:=Vo h g 4 w v C;obtain⟨c,c1,c4,P⟩:=mU h g i (n+m) (n+m) u v (qj _) zOm (p.comp q)
 grind [qpV]
theorem Vp{S}(g:U6 S){k}(h:Sub k S):∀ i,Sub (itK i k) S
 | 0=>h
 |i+1=>⟨(Vp g h i).1,fun t j=>by
  rcases Zl.1 j with j|j
  .exact (Vp g h i).2 t j
  .exact g t ((U5 (Vp g h i) (Vp g h i)).2 t j)⟩
theorem qd6:∀ i,Sub k (itK i k)
 | 0 => .refl k
 |i+1=>(qd6 i).trans (Y0 i)
theorem qpX(h:okKd ns k)(l:k.ar=2)(g:ns<=4):eRS (qp (itK 4 k))=eRS (qp (kClo k)):=by
 have o:Sub (kClo k) (itK 4 k):=K2 (qpW h l g) 70 0 k (qd6 4);have i:Sub (itK 4 k) (kClo k):=Vp (K3 g 70 0 k h l zOm (.inl rfl)) (K1 70 0 k) 4;refine Qf i.1 fun j p=>?_
 rw[Ql,yU,yU,i.1];exact⟨fun x=>⟨x.1,i.2 _ x.2⟩,fun x=>⟨x.1,o.2 _ x.2⟩⟩
end
end QG
namespace QH
open YF Y9 Y2 Y3 P1 P2 PB QD QE QF QG
theorem Ul{ns a}(h:okKd ns a)(J:a.ar=2)(g:ns<=4):qg qc 236 [eRS (qp a)] (eRS (qp (kClo a))):=by
 refine qSQ call236 func236 rfl { mt:=[1] } ?_;rw[<-qpX h J g];simp[go_sem];refine⟨zb _,?_⟩;refine aA 4 (fun i U=>U.tm 1 = .ptr 0 0/\U.tm 2 = .ptr 1 0/\U.tm 3=aI i/\U.mu=[.arr (cRS (qp (itK i a))),.arr (aI 0 :: hB fun _=>false)]) ?_ ?_
 .exact ⟨zSi,zSi,zSi,by simp[go_sem];exact⟨⟨rfl,rfl⟩,rfl⟩⟩
 rintro i U hi ⟨l,o,p,P⟩;by_cases t:i<4
 .have j:(i:Int)<4:=by omega
  have R:=zWk i;obtain⟨ok,o2⟩:=okIt h J i;have T:qg qc 233 [eRS (qp (itK i a)),eRS (qp (itK i a))] (eRS (qp (zL (itK i a) (itK i a)))):=by
   rw[<-qd4 ok ok g zOm];exact u7 _ _ (by show 0<=(itK i a).ar/\(itK i a).ar<=1000;omega) (by show 1<=(itK i a).ar/\(itK i a).ar<=1000;omega)
  have cu:qg qc 231 [eRS (qp (itK i a)),eRS (qp (zL (itK i a) (itK i a)))] (eRS (qp (itK (i+1) a))):=by
   have:=jV (qp (itK i a)) (qp (zL (itK i a) (itK i a)));rw[Vm (by simp only[zL];omega)]at this;exact this
  generalize C:qp (itK (i+1) a)=s' at *
  generalize qp (zL (itK i a) (itK i a))=q at *
  generalize qp (itK i a)=s at *
  simp[go_sem,p,P,j];refine tR zKr ?_;simp[go_sem,l,qr,tk];refine fR T (.zk (yF _) (.zk (yF _) .nil)) ?_;refine tU cu (.zk (yF _) (.zk (yF _) .nil)) ?_;simp[go_sem,l,qr,pc];rw[if_pos (zb _)];simp[go_sem,p,R];exact⟨t,aC ⟨zS1 l,zS1 o,zSi,zS1 C⟩⟩
 .have I:i=4:=by omega
  subst I;generalize qp (itK 4 a)=s at *
  simp[go_sem,l,o,p,P,qr,tk,pc];rw[if_pos (zb _)];simp[go_sem,o,qr,tk];exact .hf _ (yF s)
theorem qpY(i k)(g:k=1\/k=2):eRS (qp (kSum (zu i k) (kOf (qM k (i:Int)))))=eRS (qp (zu (i+1) k)):=by
 refine Qf rfl fun j l=>?_
 rw[Ql,yU,yU];show j<szA (k:Int)/\pad (dig (k:Int) j)∈(kSum (zu i k) (kOf (qM k (i:Int)))).ts↔j<szA (k:Int)/\pad (dig (k:Int) j)∈(qs (i+1)).map fun (x:Nat)=>pad (qM k (x:Int))
 rw[Zl,List.range_succ,zx,qO];rfl
theorem qpZ(k):hB (qp (zu 0 k)).2=hB fun _=>false:=uJ fun j _=>decide_eq_false fun h=>absurd h.2 qK
theorem allU(ts)(h:okTS ts)(k:Nat)(T:k=1\/k=2):qg qc 230 [eTS ts,aI k] (eRS (qp (zu ts.sS.length k))):=by
 refine qSV call230 func230 rfl ?_;have a1:=h.ns;have hz:=qpZ k;simp[go_sem];refine aA ts.sS.length (fun i U=>U.tm 1=aI k/\U.tm 2 = .ip (cTS ts)/\U.tm 4 = .ptr 0 0/\U.tm 5 = .ptr 1 0/\U.tm 6=aI i/\U.mu=[.arr (aI 0 :: hB fun _=>false),.arr (cRS (qp (zu i k)))]) ?_ ?_
 .exact ⟨zSi,zSi,zSi,zSi,zSi,by
   have e:cRS (qp (zu 0 k))=aI k :: hB fun _=>false:=by simp only[cRS,hz];rfl
   rw[e];simp[go_sem];first|rfl|exact⟨rfl,rfl⟩⟩
 rintro i U hi ⟨I,t,J,j,o,P⟩;by_cases g:i<ts.sS.length
 .have w1:=zWk i
  have c1:∀ l:List Int,l=qM k (i:Int)->qg qc 171 [lI l] (eRS (qp (kOf l))):=fun l p=>by
   have a0:l.length=k:=by rw[p,List.length_replicate]
   have:=oneU l zOm;rw[kI]at this;rw[<-QF.kN (l:=l) zOm (fun x hx=>by rw[p]at hx;rw[List.eq_of_mem_replicate hx];omega)];exact this
  have cu:∀ l:List Int,l=qM k (i:Int)->qg qc 231 [eRS (qp (zu i k)),eRS (qp (kOf l))] (eRS (qp (zu (i+1) k))):=fun l p=>by
   have:=jV (qp (zu i k)) (qp (kOf l));rw[Vm (by show (k:Int)=l.length;rw[p,List.length_replicate]),p,qpY i k T]at this;rw[p];exact this
  generalize C:qp (zu (i+1) k)=s' at *
  generalize qp (zu i k)=s at *
  rcases T with rfl|rfl
  .have d1:=c1 [(i:Int)] rfl
   have d2:=cu [(i:Int)] rfl;generalize qp (kOf [(i:Int)])=q at *
   simp[go_sem,I,t,o,P,g];refine tR zKr ?_;simp[go_sem,j,o,qr,tk];refine fR d1 (.cons (QD.wk1 _) .nil) ?_;refine tU d2 (.zk (yF _) (.zk (yF _) .nil)) ?_;simp[go_sem,j,qr,pc];rw[if_pos (zb _)];simp[go_sem,o,w1];exact⟨g,aC ⟨zS1 I,zS1 t,zS1 J,zS1 j,zSi,zS1 C⟩⟩
  .have d1:=c1 [(i:Int),(i:Int)] rfl
   have d2:=cu [(i:Int),(i:Int)] rfl;generalize qp (kOf [(i:Int),(i:Int)])=q at *
   simp[go_sem,I,t,o,P,g];refine tR zKr ?_;simp[go_sem,j,o,qr,tk];refine fR d1 (.cons (QD.wk2 _ _) .nil) ?_;refine tU d2 (.zk (yF _) (.zk (yF _) .nil)) ?_;simp[go_sem,j,qr,pc];rw[if_pos (zb _)];simp[go_sem,o,w1];exact⟨g,aC ⟨zS1 I,zS1 t,zS1 J,zS1 j,zSi,zS1 C⟩⟩
 .have R:i=ts.sS.length:=by omega
  subst R;generalize qp (zu ts.sS.length k)=s at *
  simp[go_sem,t,J,j,o,P,qr,tk,pc];rw[if_pos (zb _)];simp[go_sem,J,qr,tk];exact .hf _ (yF s)
end QH
namespace QI
open YF Y9 Y10 Y1 Y2 P1 P2
theorem qp0{c nm k}(l:k<c.calls)(o)(h:c.ts.sT[k].name=nm)(i:∀(j) (g),j<k->c.ts.sT[j].name≠nm):zl c nm=some k:=by
 unfold zl;rw[List.findIdx?_eq_some_iff_getElem];refine⟨zSo,zP1 h,fun j g=>?_⟩;simp[i j zOm g]
theorem qp1{c nm}(i:∀(j) (g),j<c.calls->c.ts.sT[j].name≠nm):zl c nm=none:=by
 unfold zl;rw[List.findIdx?_eq_none_iff];intro p l;obtain⟨j,g,e⟩:=List.mem_iff_getElem.1 l;simp at g;rw[List.getElem_take]at e;rw[<-e];exact decide_eq_false (i j zOm zOm)
abbrev idxO:Option Nat->Int
 |some i=>i
 |none => -1
theorem Vq(c)(P:okCk c)(nm):qg qc 130 [eTS c.ts,aI c.calls,aS nm] (aI (idxO (zl c nm))):=by
 refine qSV call130 func130 rfl ?_;have R:=P.calls;have T:=P.ts.np;simp[go_sem];refine aA c.calls (fun k U=>U.tm 1=aI c.calls/\U.tm 2=aS nm/\U.tm 3 = .ip (cTS c.ts)/\U.tm 7=aI k/\∀(j:Nat)(p:j<c.ts.sT.length),j<k->c.ts.sT[j].name≠nm) ?_ ?_
 .exact ⟨zSi,zSi,zSi,zSi,fun j p h=>zOm⟩
 rintro k U hk ⟨l,t,C,e7,I⟩;by_cases g:k<c.calls
 .have w1:=zWk k
  have i:k<c.ts.sT.length:=zOm;by_cases o:c.ts.sT[k].name=nm
  .rw [qp0 g i o I]
   simp[go_sem,l,t,C,e7,g,i,o];exact .zsc _
  .simp [go_sem,l,t,C,e7,g,i,jG o,w1]
   refine aC ⟨zS1 l,zS1 t,zS1 C,zSi,fun j p a0=>?_⟩;by_cases he:j=k
   .subst he;exact o
   .exact I j p zOm
 .have J:k=c.calls:=by omega
  subst J;rw[qp1 I];simp[go_sem,l,e7];exact .zsc _
theorem Ja(op):qg qc 164 [aI op] (aB (yw op)):=by
 refine qSV call164 func164 rfl ?_;by_cases g:op=5
 .rw [show yw op=true by simp[yw,g]]
  simp[go_sem,g];exact .zsc _
 by_cases i:48<=op
 .by_cases j:op<=51
  .rw [show yw op=true by unfold yw;rcases (show op=48\/op=49\/op=50\/op=51 by omega) with h|h|h|h<;>simp[h]]
   simp[go_sem,g,i,j];exact .zsc _
  .rw [show yw op=false by simp[yw,g,show ¬op=48 by omega,show ¬op=49 by omega,show ¬op=50 by omega,show ¬op=51 by omega]]
   simp[go_sem,g,i,j];exact .zsc _
 .rw [show yw op=false by simp[yw,g,show ¬op=48 by omega,show ¬op=49 by omega,show ¬op=50 by omega,show ¬op=51 by omega]]
  simp[go_sem,g,i];exact .zsc _
abbrev rBo(b:Bool):List AV:=[aB b]
abbrev lBo(l:List Bool):AV := .lst false (l.map rBo)
theorem Vs(l):HF (lBo l):=HF.lst fun r i c g=>by
 obtain⟨b,_,rfl⟩:=qn.1 i;rw[qS]at g;subst g;exact HF.sc _
def tpB(c:Ck)(nm:tZ):Bool:=match zl c nm with|some p=>c.timed.getD p false|none=>false
theorem Jb(c)(o:okCk c)(nm):qg qc 165 [eTS c.ts,lBo c.timed,aI c.calls,aS nm] (aB (tpB c nm)):=by
 generalize i:tpB c nm=r;unfold tpB at i;refine qSU call165 func165 rfl ?_;refine tU (Vq c o nm) (.zk (zw _) (.zs (.zs .nil))) ?_;cases j:zl c nm with
 |none =>
  rw[j]at i;subst i;simp[go_sem,idxO];exact .zsc _
 |some p =>
  rw[j]at i;by_cases l:p<c.timed.length
  .have g:r=c.timed[p]:=by rw[<-i];simp[List.getD,l]
   subst g;simp[go_sem,idxO,l];exact .zsc _
  .have g:r=false:=by rw[<-i];simp[List.getD,l]
   subst g;simp[go_sem,idxO,l];exact .zsc _
theorem qd7(c)(hc:okCk c)(hl:c.timed.length=c.calls):∀ m n,szN n<=m->Small n->qg qc 170 [eTS c.ts,lBo c.timed,eNd n] (aB (yx c n))
 | 0,n,hm,_=>by obtain⟨op,nm,i,ks,p⟩:=n;simp[szN]at hm
 |m+1,n,hm,hs=>by
  have ih:∀ k,k∈n.sD->qg qc 170 [eTS c.ts,lBo c.timed,eNd k] (aB (yx c k)):=fun k J =>
   qd7 c hc hl m k (zW1 (zf J)) (hs.kid J)
  have a0:=hs.len;have P:zX c n.op n.name=(yw n.op||(decide (n.op=47)&&tpB c n.name)):=rfl;rw[Uq,P];generalize hR:n.sD.any (yx c)=R;have ct:=Ja n.op;have cp:=Jb c hc n.name;generalize yw n.op=T at *
  generalize tpB c n.name=B at *
  refine qSU call170 func170 rfl ?_;refine tU ct (.zs .nil) ?_;cases T with
  |true =>
   simp[go_sem];exact .zsc _
  |false =>
  rw[Bool.false_or];by_cases h47:n.op=47
  .rw [decide_eq_true h47,Bool.true_and]
   simp[go_sem,h47,hl];refine tU cp (.zk (zw _) (.zk (Vs _) (.zs (.zs .nil)))) ?_;cases B with
   |true =>
    simp[go_sem];exact .zsc _
   |false =>
   rw[Bool.false_or];simp[go_sem];refine aA n.sD.length (fun k U=>U.tm 1=lBo c.timed/\U.tm 3 = .ip (cTS c.ts)/\U.tm 5 = .ip (cNd n)/\U.tm 7=aI k/\(n.sD.drop k).any (yx c)=R) ?_ ?_
   .exact ⟨zSi,zSi,zSi,zSi,zUs hR⟩
   rintro k U J ⟨t,C,l,e7,j⟩;by_cases o:k=n.sD.length
   .subst o
    rw[zU]at j;have j:R=false:=by rw[<-j];rfl
    subst j;simp[go_sem,l,e7];exact .zsc _
   have g:k<n.sD.length:=zOm;have w1:=zWk k;rw[zg g,List.any_cons]at j;have hi:=ih n.sD[k] (qt g);simp[go_sem,l,e7,g];refine tR zKr ?_;simp[go_sem,t,C,l,e7,g];refine tU hi (.zk (zw _) (.zk (Vs _) (.zk (qE _) .nil))) ?_;cases I:yx c n.sD[k] with
   |true =>
    rw[I,Bool.true_or]at j;subst j;simp[go_sem];exact .zsc _
   |false =>
    rw[I,Bool.false_or]at j;simp[go_sem,e7,g,w1];exact aC ⟨zS1 t,zS1 C,zS1 l,zSi,j⟩
  .rw [decide_eq_false h47,Bool.false_and,Bool.false_or]
   simp[go_sem,h47];refine aA n.sD.length (fun k U=>U.tm 1=lBo c.timed/\U.tm 3 = .ip (cTS c.ts)/\U.tm 5 = .ip (cNd n)/\U.tm 7=aI k/\(n.sD.drop k).any (yx c)=R) ?_ ?_
   .exact ⟨zSi,zSi,zSi,zSi,zUs hR⟩
   rintro k U J ⟨t,C,l,e7,j⟩;by_cases o:k=n.sD.length
   .subst o
    rw[zU]at j;have j:R=false:=by rw[<-j];rfl
    subst j;simp[go_sem,l,e7];exact .zsc _
   have g:k<n.sD.length:=zOm;have w1:=zWk k;rw[zg g,List.any_cons]at j;have hi:=ih n.sD[k] (qt g);simp[go_sem,l,e7,g];refine tR zKr ?_;simp[go_sem,t,C,l,e7,g];refine tU hi (.zk (zw _) (.zk (Vs _) (.zk (qE _) .nil))) ?_;cases I:yx c n.sD[k] with
   |true =>
    rw[I,Bool.true_or]at j;subst j;simp[go_sem];exact .zsc _
   |false =>
    rw[I,Bool.false_or]at j;simp[go_sem,e7,g,w1];exact aC ⟨zS1 t,zS1 C,zS1 l,zSi,j⟩
theorem kP(l:List Bool):qW 1 (l.map rBo):=fun r g=>by
 obtain⟨b,_,rfl⟩:=qn.1 g;exact⟨rfl,rfl⟩
theorem appBo{mu lo s xs b K}(g:OwnF lo mu 1 s (xs.map rBo))(p:xs.length<=100000)(j:∀ av mu',OwnF lo mu' 1 av ((xs++[b]).map rBo)->(∀ i,i<lo->mu'[i]?=mu[i]?)->K av mu') :
  qw qc mu #[55,55] s (.lst true [[aB b]]) K:=by
 refine qw.ownF (lo:=lo) (e:=4) (sz:=1) (bt:=1) (zv:=aB false) (xs:=xs.map rBo) (ys:=[rBo b]) zSi zSi zSi rfl rfl zOm zOm g (by simp[qA]) (kP xs) (kP [b]) zSo ?_;intro av mu' h o;exact j av mu' (by rw[zx];exact h) o
theorem rdBo{lo mu av l}(i:OwnF lo mu 1 av (l.map rBo)):Rd mu av (lBo l):=
 Own.rd (sz:=1) i.1 (kP l).ok fun r j c g=>by
  obtain⟨b,_,rfl⟩:=qn.1 j;rw[qS]at g;subst g;exact HF.sc _
theorem qp2(ts)(h:okTS ts)(hp:∀ p,p∈ts.sT->WfN p.body):qg qc 101 [eTS ts] (lBo (tmsL ts ts.sT.length)):=by
 refine qSV call101 func101 rfl ?_;have a0:=h.np;simp[go_sem];refine aA ts.sT.length (fun k U=>U.tm 1 = .ip (cTS ts)/\U.tm 4=aI k/\OwnF 0 U.mu 1 (U.tm 3) ((tmsL ts k).map rBo)) ?_ ?_
 .exact ⟨zSi,zSi,by simp[go_sem,tmsL];exact OwnF.nil (Nat.zero_le _)⟩
 rintro k U hk ⟨j,l,o⟩;by_cases g:k<ts.sT.length
 .have w1:=zWk k
  generalize C:U.tm 3=t at *
  have I:=rdBo o;have ht:=qd7 (mkCk ts k) (vu h zOm) (ZI ts k zOm) (szN ts.sT[k].body) ts.sT[k].body (qj _) (hp _ (qt g)).small;have T:=ZI ts k zOm;have i:tmsL ts (k+1)=tmsL ts k++[yx (mkCk ts k) ts.sT[k].body]:=by
   show tmsL ts k++(match ts.sT[k]? with|some p=>[yx ⟨ts,k,tmsL ts k⟩ p.body] | none=>[])=_;rw[qB g];rfl
  simp[go_sem,j,l,g];refine tR zKr ?_;simp[go_sem,j,l,C,g];refine fW (args':=[eTS ts,lBo (tmsL ts k),eNd ts.sT[k].body]) ht ⟨.hf _ (zw ts),I,.hf _ (qE _),trivial⟩ (FL.sc _) ?_;simp[go_sem];refine appBo o zOm fun a1 m' P _=>?_
  simp[go_sem,l,g,w1];exact aC ⟨zS1 j,zSi,by rw[i];simpa[go_sem] using P⟩
 .have R:k=ts.sT.length:=by omega
  subst R;generalize C:U.tm 3=t at *
  simp[go_sem,j,l,C];exact rdBo o
end QI
namespace QJ
open YF Y10 Y1 P1 QD QE QF
abbrev Vr:=tZ×RS
abbrev cVr(v:Vr):List AV:=aS v.1 :: cRS v.2
abbrev lVr(l:List Vr):AV := .lst false (l.map cVr)
theorem qd8(v):∀ c,c∈cVr v->HF c:=fun c g=>by
 rcases qy.1 g with rfl|g
 .exact HF.sc _
 .exact ((setC v.2).sc c g).2
theorem qp3(l):HF (lVr l):=HF.lst fun r g c i=>by
 obtain⟨v,_,rfl⟩:=qn.1 g;exact qd8 v c i
theorem kQ(v):∀ c,c∈cVr v->c.one=true:=fun c g=>by
 rcases qy.1 g with rfl|g
 .rfl
 .exact ((setC v.2).sc c g).1
theorem kR(l:List Vr):qW 66 (l.map cVr):=fun r g=>by
 obtain⟨v,_,rfl⟩:=qn.1 g;exact⟨by simp[hB],q8.2 (kQ v)⟩
theorem kS{mu lo s x}{xs ys:List Vr}{K}(g:OwnF lo mu 66 s (xs.map cVr))(j:qA mu x=some (ys.map cVr))(p:xs.length+ys.length<=100000)(l:∀ av mu',OwnF lo mu' 66 av ((xs++ys).map cVr)->(∀ i,i<lo->mu'[i]?=mu[i]?)->K av mu') :
  qw qc mu #[162,162] s x K:=by
 refine qw.ownF (lo:=lo) (e:=235) (sz:=66) (bt:=88) (zv := .agg (aS ⟨#[]⟩ :: aI 0 :: zs)) (xs:=xs.map cVr) (ys:=ys.map cVr) zSi zSi (by simp[go_sem];rfl) rfl rfl zOm zOm g j (kR xs) (kR ys) zSo ?_;intro av mu' h o;exact l av mu' (by rw[zx];exact h) o
theorem rdVr{lo mu av l}(g:OwnF lo mu 66 av (l.map cVr)):Rd mu av (lVr l):=
 Own.rd (sz:=66) g.1 (kR l).ok fun r i c j=>by
  obtain⟨v,_,rfl⟩:=qn.1 i;exact qd8 v c j
theorem pcV(n q):putCells (aS n :: aI 0 :: zs) 1 (aI q.1 :: hB q.2)=cVr (n,q):=by
 have g:zs.length=64:=rfl;rw[y7 _ _ _ (by simp[qr,g])];simp[qr,g,List.drop_of_length_le]
def envV(env:List (tZ×Int)):List Vr:=env.map fun p=>(p.1,qp (kOf [p.2]))
theorem envU(env)(hl:env.length<=1000)(hr:∀ p,p∈env->0<=p.2/\p.2<4):qg qc 102 [lPm env] (lVr (envV env)):=by
 refine qSU call102 func102 rfl ?_;refine aA env.length (fun k U=>U.tm 0=lPm env/\U.tm 4=aI k/\OwnF 0 U.mu 66 (U.tm 3) ((envV (env.take k)).map cVr)) ?_ ?_
 .exact ⟨zSi,zSi,by simp[go_sem,envV];exact OwnF.nil (Nat.zero_le _)⟩
 rintro k U hk ⟨j,o,I⟩;by_cases g:k<env.length
 .have w1:=zWk k
  generalize J:U.tm 3=t at *
  have hp:=hr _ (qt g);have c1:qg qc 171 [lI [env[k].2]] (eRS (qp (kOf [env[k].2]))):=by
   have:=oneU [env[k].2] zSp;rw[kI]at this;rw[<-QF.kN (l:=[env[k].2]) zSp (fun x hx=>by rw[qS]at hx;subst hx;exact hp)];exact this
  have i:envV (env.take (k+1))=envV (env.take k)++[(env[k].1,qp (kOf [env[k].2]))]:=by
   unfold envV;rw[uL g,zx];rfl
  have a2:(envV (env.take k)).length=k:=by simp[envV];omega
  generalize qp (kOf [env[k].2])=q at *
  simp[go_sem,j,o,g];refine tR zKr ?_;simp[go_sem,j,o,J,g];refine fR c1 (.cons (QD.wk1 _) .nil) ?_;rw[if_pos ⟨qr _,zb _⟩];generalize hC:putCells _ 1 _=C;have P:C=cVr (env[k].1,q):=by rw[<-hC];exact pcV _ _
  subst P;clear hC;have R:(cVr (env[k].1,q)).length=66:=by simp[qr]
  have T:=kQ (env[k].1,q);generalize hV:cVr (env[k].1,q)=V at *
  simp[go_sem,R];rw[if_pos T];simp[go_sem];refine kS (ys:=[(env[k].1,q)]) I (by simp[qA,hV]) zSo fun a3 m' a0 _=>?_
  simp[go_sem,o,g,w1];exact aC ⟨zS1 j,zSi,by rw[i];simpa[go_sem] using a0⟩
 .have a1:k=env.length:=by omega
  subst a1;rw[zi]at I;generalize J:U.tm 3=t at *
  simp[go_sem,j,o,J];exact rdVr I
end QJ
namespace QK
open Y9 Y2 P1 QD QE QF
def fin(c:List AV)(l:List Kd):List AV:=match l.getLast? with|some k=>cRS (qp k)|none=>c
theorem Vt(c l m):fin c (l++m)=fin (fin c l) m:=by
 unfold fin;rw[List.getLast?_append];cases m.getLast?<;>rfl
theorem Wl(c k):fin c [k]=cRS (qp k):=rfl
theorem oneK{l}(h:1<=l.length/\l.length<=3)(g:∀ x,x∈l->0<=x/\x<4):oneC l=cRS (qp (kOf l)):=by
 rw[kI];exact AV.agg.inj (QF.kN h g)
theorem qd9(nm):∀ l c k,(∀ f,f∈l->(1<=f.sS.length/\f.sS.length<=3)/\∀ x,x∈f.sS->0<=x/\x<4)->nmF nm l (c,k)=(fin c (z6 l nm),k+(z6 l nm).length)
 | [],c,k,_=>rfl
 |f :: l,c,k,h=>by
  have hf:=h f (qZ ..);have j:=fun c k=>qd9 nm l c k fun g o=>h g (qN _ o)
  by_cases i:f.name=nm
  .have e:z6 (f :: l) nm=[kOf f.sS]++z6 l nm:=by simp[z6,i]
   rw[e,Vt,Wl];simp only[nmF,stF,if_pos i];rw[j,oneK hf.1 hf.2];simp;omega
  .have e:z6 (f :: l) nm=z6 l nm:=by simp[z6,i]
   rw[e];simp only[nmF,stF,if_neg i];exact j c k
theorem st_eq(nm i)(I:i<4)(x c k):st3 nm i x (st2 nm i x (st1 nm i x (c,k)))=(fin c (vM i x nm),k+(vM i x nm).length):=by
 have j:=oneK (l:=[(i:Int)]) zSp (fun y g=>by simp at g;subst g;omega);have o:=oneK (l:=[(i:Int),(i:Int)]) zSp (fun y g=>by simp at g;rcases g with rfl|rfl<;>omega);have p:∀ c k,st1 nm i x (c,k)=(fin c (if x.1=nm then [kOf [(i:Int)]] else []),k+(if x.1=nm then [kOf [(i:Int)]] else []).length):=fun c k=>by
  unfold st1;split
  .rw [Wl,j];rfl
  .rfl
 have t:∀ c k,st2 nm i x (c,k)=(fin c (if x.2=true/\x.1++jT=nm then [kOf [(i:Int)]] else []),k+(if x.2=true/\x.1++jT=nm then [kOf [(i:Int)]] else []).length):=fun c k=>by
  unfold st2;split
  .rw [Wl,j];rfl
  .rfl
 have C:∀ c k,st3 nm i x (c,k)=(fin c (if x.2=true/\x.1++vr=nm then [kOf [(i:Int),(i:Int)]] else []),k+(if x.2=true/\x.1++vr=nm then [kOf [(i:Int),(i:Int)]] else []).length):=fun c k=>by
  unfold st3;split
  .rw [Wl,o];rfl
  .rfl
 unfold vM;rw[p,t,C,Vt,Vt,zh,zh];simp only[Nat.add_assoc]
theorem qeA(nm):∀ l i c k,i+l.length<=4->nmS nm i l (c,k)=(fin c (yo i l nm),k+(yo i l nm).length)
 | [],i,c,k,_=>rfl
 |x :: l,i,c,k,h=>by
  simp only[yh]at h;have g:=fun c k=>qeA nm l (i+1) c k zOm
  simp only[nmS,yo];rw[st_eq nm i zOm,g,Vt,zh,Nat.add_assoc]
theorem kU{ts}(h:okTS ts)(nm):named ts nm=(fin (aI 0 :: zs) (means ts nm),(means ts nm).length):=by
 unfold named means;rw[qd9 nm ts.sA _ _ fun f hf=>?_,qeA nm ts.sS _ _ _ (zW1 h.ns),Vt,zh,yM];have:=h.fl f hf;have g:=h.ns;exact⟨zOm,fun x i=>zW1 (this.2.2 x i)⟩
end QK
namespace QL
open YF Y9 Y1 Y2 P1 QD QE QF QI QJ QK
abbrev cVw(c:Ck)(inn:Bool):List AV:=[lSo c.ts.sS,lFl c.ts.sA,lPd c.ts.sT,lFa c.ts.sP,lBo c.timed,aI c.calls,aB inn]
abbrev eVw(c:Ck)(inn:Bool):AV := .agg (cVw c inn)
def envS(s:Scp):List Vr:=s.reverse.map fun v=>(v.1,qp v.2)
theorem Wm(s):(envS s).length=s.length:=by simp[envS]
theorem qeB(env):envV env=envS (zz env):=by
 have h:∀(l:List (tZ×Int))(a:Scp),l.foldl (fun s p=>(p.1,kOf [p.2]) :: s) a=(l.map fun p=>(p.1,kOf [p.2])).reverse++a:=by
  intro l;induction l with
  |nil=>intro a;rfl
  |cons p l g=>intro a;rw[List.foldl_cons,g];simp
 unfold envV envS zz;rw[h,yg,List.reverse_reverse,List.map_map];rfl
theorem qp4(s d h g):(envS s)[s.length-1-d]=(s[d].1,qp s[d].2):=by
 have e:s.length-1-(s.length-1-d)=d:=zOm;simp[envS,List.getElem_reverse,e]
abbrev zR:RS:=(0,fun _=>false)
abbrev eDg(d:Dg):AV := .agg [aI d.1,aI d.2]
def endR(z:RS):Res->AV
 | .error e => .tup [eRS z,eDg e]
 | .ok (some k) => .tup [eRS (qp k),eDg (0,0)]
 | .ok none => .tup [eRS zR,eDg (0,0)]
theorem vj(s d):HF (.tup [eRS s,eDg d]):=HF.tup fun x g=>by
 rcases qy.1 g with rfl|g
 .exact yF s
 .rw [qS]at g;subst g
  exact HF.agg fun c i=>by
   rcases qy.1 i with rfl|i
   .exact HF.sc _
   .rw [qS]at i;subst i;exact HF.sc _
theorem tS{ts}(h:okTS ts):okNm ts:=⟨h.sl,zW1 h.ns,zW1 h.nf,fun f hf=>zW1 (h.fl f hf)⟩
theorem wo(c)(hc:okCk c)(inn s n)(hs:s.length<=100000):qg qc 166 [eVw c inn,lVr (envS s),eNd n] (endR zR (yH c s n.name n.pos)):=by
 generalize i:endR zR (yH c s n.name n.pos)=R;unfold yH at i;refine qSV call166 func166 rfl ?_;have a1:=Wm s;have w0:ql.wrap ((s.length:Int)-1)=(s.length:Int)-1:=zWr;simp[go_sem,a1,w0];refine aA s.length (fun d U=>U.tm 1=lVr (envS s)/\U.tm 3 = .ip (cVw c inn)/\U.tm 5 = .ip (cNd n)/\U.tm 6 = .ptr 0 0/\U.tm 7 = .ptr 1 0/\U.tm 8=aI ((s.length:Int)-1-d)/\U.mu=[.arr (aI 0 :: hB fun _=>false),.arr [aI 0,aI 0]]/\y9 n.name (s.drop d)=y9 n.name s) ?_ ?_
 .exact ⟨zSi,zSi,zSi,zSi,zSi,zSi,by simp[go_sem];first|rfl|exact⟨rfl,rfl⟩,rfl⟩
 rintro d U hd ⟨e1,e3,t,p,e7,j,hm,I⟩;by_cases J:d<s.length
 .have T:s.length-1-d<(envS s).length:=by omega
  have g:=qp4 s d J T;obtain⟨e,he⟩:∃ e:Nat,e=s.length-1-d:=⟨_,rfl⟩;have a2:(s.length:Int)-1-d=(e:Int):=zOm;rw[a2]at j;rw[<-he]at T;have g:(envS s)[e]=(s[d].1,qp s[d].2):=by simp only[he];exact g
  have w1:ql.wrap ((e:Int)-1)=(s.length:Int)-1-((d+1:Nat):Int):=by rw[zWr];omega
  rw[zg J]at I;have h0:(0:Int)<=(e:Int):=zOm;by_cases hq:s[d].1=n.name
  .have hf:y9 n.name s=s[d] :: s.drop (d+1):=by rw[<-I,y9,if_pos hq]
   rw[hf]at i;simp only[endR]at i;have i:R = .tup [eRS (qp s[d].2),eDg (0,0)]:=i.symm;subst i;simp[go_sem,j,hm];refine tR zKr ?_;simp[go_sem,e1,j,T,g,hq];generalize qp s[d].2=q at *
   simp[go_sem,e1,t,p,j,T,g,qr,tk,pc];rw[if_pos (zb _)];simp[go_sem,p,e7,qr,tk];exact .hf _ (vj q (0,0))
  .rw [y9,if_neg hq]at I
   simp[go_sem,j,hm];refine tR zKr ?_;simp[go_sem,e1,t,j,T,g,jG hq,w1,qr];exact⟨zOm,aC ⟨zS1 e1,zS1 e3,zS1 t,zS1 p,by simp[go_sem,e7],zSi,zSi,I⟩⟩
 .have a3:d=s.length:=by omega
  subst a3;have j:U.tm 8=aI (-1):=by rw[j];congr 2;omega
  rw[zU]at I;rw[<-I]at i;simp only[y9]at i;have hN:=kH c.ts (tS hc.ts) n.name;have a0:=kG c.ts n.name;rw[kU hc.ts]at hN a0;simp[go_sem,e3,t,j,hm];refine tU hN (.zk (zw _) (.zs .nil)) ?_;have o:SetC (fin (aI 0 :: zs) (means c.ts n.name)):=a0;generalize a4:means c.ts n.name=ms at *
  match ms,a4 with
  | [],_ =>
   simp only[endR]at i;subst i;generalize fin (aI 0 :: zs) []=C at *
   simp[go_sem,o.len];rw[if_pos o.one];simp[go_sem];refine fG [0,1,2,3,4,5] [(0,0,[]),(1,0,[]),(2,0,[]),(3,0,[]),(4,1,[2]),(5,1,[])] zKr zKr zSi ?_;simp[go_sem,t,p,e7,nI,qr];exact .hf _ (vj zR (_,n.pos))
  | [k],_ =>
   simp only[endR]at i;subst i;have e:fin (aI 0 :: zs) [k]=aI (qp k).1 :: hB (qp k).2:=rfl;rw[e]at o⊢;generalize qp k=q at *
   simp[go_sem,o.len];rw[if_pos (zb _)];generalize hP:putCells _ 0 (aI q.1 :: hB q.2)=P;have a5:P=aI q.1 :: hB q.2:=by rw[<-hP];exact pc (aI 0) _ (fun _=>false) _
   subst a5;clear hP;simp[go_sem,p,o.len,qr,tk,pc];rw[if_pos (zb _)];simp[go_sem,p,e7,o.len,tk];exact .hf _ (vj q (0,0))
  |k1 :: k2 :: l,_ =>
   simp only[endR]at i;subst i;generalize fin (aI 0 :: zs) (k1 :: k2 :: l)=C at *
   simp[go_sem,o.len];rw[if_pos o.one];simp[go_sem];have a6:¬((l.length:Int)+1+1=0):=zOm;have a7:(1:Int)<(l.length:Int)+1+1:=zOm;simp[go_sem,a6,a7];refine fG [0,1,2,3,4,5] [(0,0,[]),(1,0,[]),(2,0,[]),(3,0,[]),(4,1,[2]),(5,1,[])] zKr zKr zSi ?_;simp[go_sem,t,p,e7,nI,qr];exact .hf _ (vj zR (_,n.pos))
end QL
namespace QM
open Y1
theorem qp5(n):qg qc 196 [eNd n] (aB (decide (30<=n.op))):=by
 refine qSV call196 func196 rfl ?_;by_cases h:30<=n.op
 .simp [go_sem,h];exact .zsc _
 .simp [go_sem,h];exact .zsc _
end QM
namespace QN
open Y1 Y2 YF Y9 Y10 P1 P2 QD QE QF QH QL
def setO:Option Kd->RS
 |some k=>qp k
 |none=>zR
abbrev lRS(l:List RS):AV := .lst false (l.map cRS)
theorem qp6(v):∀ c,c∈cRS v->HF c:=fun c g=>((setC v).sc c g).2
theorem qp7(v):∀ c,c∈cRS v->c.one=true:=fun c g=>((setC v).sc c g).1
theorem kV(l:List RS):qW 65 (l.map cRS):=fun r g=>by
 obtain⟨v,_,rfl⟩:=qn.1 g
 grind [hB,q8,qp7]
theorem appRS{mu lo s x}{xs ys:List RS}{K}(g:OwnF lo mu 65 s (xs.map cRS))(j:qA mu x=some (ys.map cRS))(l:xs.length+ys.length<=100000)(o:∀ av mu',OwnF lo mu' 65 av ((xs++ys).map cRS)->(∀ i,i<lo->mu'[i]?=mu[i]?)->K av mu') :
  qw qc mu #[229,229] s x K:=by
 refine qw.ownF (lo:=lo) (e:=156) (sz:=65) (bt:=72) (zv := .agg (aI 0 :: zs)) (xs:=xs.map cRS) (ys:=ys.map cRS) zSi zSi (by simp[go_sem];rfl) rfl rfl zOm zOm g j (kV xs) (kV ys) zSo ?_
 grind
theorem rdRS{lo mu av l}(g:OwnF lo mu 65 av (l.map cRS)):Rd mu av (lRS l):=
 Own.rd (sz:=65) g.1 (kV l).ok fun r i c j=>by
  obtain⟨v,_,rfl⟩:=qn.1 i;exact qp6 v c j
theorem jM(s b):HF (.tup [eRS s,aB b]):=HF.tup fun x g=>by
 rcases qy.1 g with rfl|g
 .exact yF s
 grind [qS,HF.sc]
def ApE(op:Int):Res->RS->Bool->Prop
 | .ok k,S,b=>b=true/\(kd op=101->∃ q,k=some q/\S=qp q)
 | .error _,S,b=>b=false
theorem wkS1(a):WKs [eRS a] [eRS a] := .zk (yF _) .nil
theorem wkS2(a b):WKs [eRS a,eRS b] [eRS a,eRS b] := .zk (yF _) (.zk (yF _) .nil)
theorem wkTI(ts k):WKs [eTS ts,aI k] [eTS ts,aI k] := .zk (zw _) (.zs .nil)
theorem qeC(n):eRS (n,fun _=>false)=eRS (qp ⟨n,[]⟩):=Qf rfl fun j _=>(decide_eq_false fun h=>absurd h.2 qK).symm
def itS:Nat->RS->RS
 | 0,s=>s
 |i+1,s=>uniS (itS i s) (ZW (itS i s) (itS i s))
theorem qeD(s):∀ i,(itS i s).1=s.1
 | 0=>rfl
 |i+1=>qeD s i
theorem qeE(g)(h:1<=g.1/\g.1<=3):qg qc 236 [eRS g] (eRS (itS 4 g)):=by
 refine qSQ call236 func236 rfl { mt:=[1] } ?_;simp[go_sem];refine⟨zb _,?_⟩;refine aA 4 (fun i U=>U.tm 1 = .ptr 0 0/\U.tm 2 = .ptr 1 0/\U.tm 3=aI i/\U.mu=[.arr (cRS (itS i g)),.arr (aI 0 :: hB fun _=>false)]) ?_ ?_
 .exact ⟨zSi,zSi,zSi,by simp[go_sem];exact⟨⟨rfl,rfl⟩,rfl⟩⟩
 rintro i U hi ⟨l,p,t,C⟩;by_cases P:i<4
 .have j:(i:Int)<4:=by omega
  have w1:=zWk i;have R:=qeD g i;have T:=u7 (itS i g) (itS i g) zOm zOm;have I:=jV (itS i g) (ZW (itS i g) (itS i g));have J:uniS (itS i g) (ZW (itS i g) (itS i g))=itS (i+1) g:=rfl;rw[J]at I;clear J;generalize a0:itS (i+1) g=s' at *
  generalize ZW (itS i g) (itS i g)=q at *
  generalize itS i g=s at *
  simp[go_sem,t,C,j];refine tR zKr ?_;simp[go_sem,l,qr,tk];refine fR T (.zk (yF _) (.zk (yF _) .nil)) ?_;refine tU I (.zk (yF _) (.zk (yF _) .nil)) ?_;simp[go_sem,l,qr,pc];rw[if_pos (zb _)];simp_all[go_sem,aC]
 .have o:i=4:=by omega
  subst o;generalize itS 4 g=s at *
  simp[go_sem,l,p,t,C,qr,tk,pc];rw[if_pos (zb _)];simp[go_sem,p,qr,tk];exact .hf _ (yF s)
def prC(ts:TS)(n:Nd)(l:List RS)(S:RS)(b:Bool):Prop:=qg qc 169 [eTS ts,eNd n,lRS l] (.tup [eRS S,aB b])
theorem ap2(ts n L)(h:n.op=2):prC ts n L (n.n,fun _=>false) true:=by
 unfold prC;refine qSV call169 func169 rfl ?_;simp[go_sem,h];exact .hf _ (jM (n.n,fun _=>false) true)
theorem ap3(ts)(ok:okTS ts)(n L)(h:n.op=3):prC ts n L (qp (zu ts.sS.length 1)) true:=by
 unfold prC;refine qSV call169 func169 rfl ?_;have c1:=allU ts ok 1 zOm;generalize qp (zu ts.sS.length 1)=q at *
 simp[go_sem,h];refine tU c1 (wkTI ts 1) ?_;simp[go_sem,qr];rw[if_pos (zb _)];generalize i:putCells _ 0 (aI q.1 :: hB q.2)=P;have g:P=aI q.1 :: hB q.2:=by rw[<-i];exact pc (aI 0) _ (fun _=>false) _
 subst g;clear i;simp[go_sem,qr,tk];exact .hf _ (jM q _)
theorem ap4(ts)(ok:okTS ts)(n L)(h:n.op=4):prC ts n L (qp (zu ts.sS.length 2)) true:=by
 unfold prC;refine qSV call169 func169 rfl ?_;have c1:=allU ts ok 2 zOm;generalize qp (zu ts.sS.length 2)=q at *
 simp[go_sem,h];refine tU c1 (wkTI ts 2) ?_;simp[go_sem,qr];rw[if_pos (zb _)];generalize i:putCells _ 0 (aI q.1 :: hB q.2)=P;have g:P=aI q.1 :: hB q.2:=by rw[<-i];exact pc (aI 0) _ (fun _=>false) _
 subst g;clear i;simp[go_sem,qr,tk];exact .hf _ (jM q _)
theorem ap5(ts n q)(h:n.op=5):prC ts n [q] q true:=by
 unfold prC;refine qSV call169 func169 rfl ?_;simp[go_sem,h,qr,tk];rw[if_pos (zb _)];generalize i:putCells _ 0 (aI q.1 :: hB q.2)=P;have g:P=aI q.1 :: hB q.2:=by rw[<-i];exact pc (aI 0) _ (fun _=>false) _
 subst g;clear i;simp[go_sem,qr,tk];exact .hf _ (jM q _)
theorem ap6(ts n q r S)(h:n.op=6)(c:qg qc 231 [eRS q,eRS r] (eRS S)):prC ts n [q,r] S (decide (q.1=r.1)):=by
 unfold prC;refine qSV call169 func169 rfl ?_;simp[go_sem,h];refine fG [0,1,2,3,4,5,7,8,9,10,11,12,13,14,15,17,6,16] [(0,0,[]),(1,0,[]),(2,0,[]),(3,0,[]),(4,0,[]),(5,0,[]),(7,0,[]),(8,0,[]),(9,0,[]),(10,0,[]),(11,0,[]),(12,0,[]),(13,0,[]),(14,0,[]),(15,0,[]),(17,0,[]),(6,1,[10,14]),(16,1,[10,14])] zKr zKr zSi ?_;simp[go_sem,qr,tk];refine tU c (wkS2 q r) ?_;simp[go_sem,qr];rw[if_pos (zb _)];generalize i:putCells _ 0 (aI S.1 :: hB S.2)=P;have g:P=aI S.1 :: hB S.2:=by rw[<-i];exact pc (aI 0) _ (fun _=>false) _
 subst g;clear i;simp[go_sem,qr,tk];exact .hf _ (jM S _)
theorem ap14(ts n q r S)(h:n.op=14)(c:qg qc 231 [eRS q,eRS r] (eRS S)):prC ts n [q,r] S (decide (q.1=r.1)):=by
 unfold prC;refine qSV call169 func169 rfl ?_;simp[go_sem,h];refine fG [0,1,2,3,4,5,7,8,9,10,11,12,13,14,15,17,6,16] [(0,0,[]),(1,0,[]),(2,0,[]),(3,0,[]),(4,0,[]),(5,0,[]),(7,0,[]),(8,0,[]),(9,0,[]),(10,0,[]),(11,0,[]),(12,0,[]),(13,0,[]),(14,0,[]),(15,0,[]),(17,0,[]),(6,1,[10,14]),(16,1,[10,14])] zKr zKr zSi ?_;simp[go_sem,qr,tk];refine tU c (wkS2 q r) ?_;simp[go_sem,qr];rw[if_pos (zb _)];generalize i:putCells _ 0 (aI S.1 :: hB S.2)=P;have g:P=aI S.1 :: hB S.2:=by rw[<-i];exact pc (aI 0) _ (fun _=>false) _
 subst g;clear i;simp[go_sem,qr,tk];exact .hf _ (jM S _)
theorem ap7(ts n q r S)(h:n.op=7)(c:qg qc 232 [eRS q,eRS r] (eRS S)):prC ts n [q,r] S (decide (q.1=r.1)):=by
 unfold prC;refine qSV call169 func169 rfl ?_;simp[go_sem,h];refine fG [0,1,2,3,4,5,7,8,9,10,11,12,13,14,15,17,6,16] [(0,0,[]),(1,0,[]),(2,0,[]),(3,0,[]),(4,0,[]),(5,0,[]),(7,0,[]),(8,0,[]),(9,0,[]),(10,0,[]),(11,0,[]),(12,0,[]),(13,0,[]),(14,0,[]),(15,0,[]),(17,0,[]),(6,1,[10,14]),(16,1,[10,14])] zKr zKr zSi ?_;simp[go_sem,qr,tk];refine tU c (wkS2 q r) ?_;simp[go_sem,qr];rw[if_pos (zb _)];generalize i:putCells _ 0 (aI S.1 :: hB S.2)=P;have g:P=aI S.1 :: hB S.2:=by rw[<-i];exact pc (aI 0) _ (fun _=>false) _
 subst g;clear i;simp[go_sem,qr,tk];exact .hf _ (jM S _)
theorem ap8(ts n q r)(h:n.op=8):prC ts n [q,r] q (decide (q.1=r.1)):=by
 unfold prC;refine qSV call169 func169 rfl ?_;simp[go_sem,h];refine fG [0,1,2,3,4,5,6,7,8,9,10,11,13,12] [(0,0,[]),(1,0,[]),(2,0,[]),(3,0,[]),(4,0,[]),(5,0,[]),(6,0,[]),(7,0,[]),(8,0,[]),(9,0,[]),(10,0,[]),(11,0,[]),(13,0,[]),(12,1,[6,10])] zKr zKr zSi ?_;simp[go_sem,qr,tk];rw[if_pos (zb _)];generalize i:putCells _ 0 (aI q.1 :: hB q.2)=P;have g:P=aI q.1 :: hB q.2:=by rw[<-i];exact pc (aI 0) _ (fun _=>false) _
 subst g;clear i;simp[go_sem,qr,tk];exact .hf _ (jM q _)
theorem ap32(ts n q r)(h:n.op=32):prC ts n [q,r] zR (decide (q.1=r.1)):=by
 unfold prC;refine qSV call169 func169 rfl ?_;simp[go_sem,h];refine fG [0,1,2,3,4,5,6,7,8,9,11,10] [(0,0,[]),(1,0,[]),(2,0,[]),(3,0,[]),(4,0,[]),(5,0,[]),(6,0,[]),(7,0,[]),(8,0,[]),(9,0,[]),(11,0,[]),(10,1,[4,8])] zKr zKr zSi ?_;simp[go_sem,qr];exact .hf _ (jM zR _)
theorem ap33(ts n q r)(h:n.op=33):prC ts n [q,r] zR (decide (q.1=r.1)):=by
 unfold prC;refine qSV call169 func169 rfl ?_;simp[go_sem,h];refine fG [0,1,2,3,4,5,6,7,8,9,11,10] [(0,0,[]),(1,0,[]),(2,0,[]),(3,0,[]),(4,0,[]),(5,0,[]),(6,0,[]),(7,0,[]),(8,0,[]),(9,0,[]),(11,0,[]),(10,1,[4,8])] zKr zKr zSi ?_;simp[go_sem,qr];exact .hf _ (jM zR _)
theorem ap9(ts n q r S)(h:n.op=9)(o:0<=q.1/\q.1<=1000)(p:0<=r.1/\r.1<=1000)(c:qg qc 233 [eRS q,eRS r] (eRS S)):prC ts n [q,r] S (decide (1<=q.1+r.1-2/\q.1+r.1-2<=3)):=by
 unfold prC;refine qSV call169 func169 rfl ?_;have l:ql.wrap (q.1+r.1)=q.1+r.1:=zWr;have w2:ql.wrap (q.1+r.1-2)=q.1+r.1-2:=zWr;simp[go_sem,h];refine tR zKr ?_;simp[go_sem,qr,l,w2];refine tR zKr ?_;by_cases j:1<=q.1+r.1-2
 .simp [go_sem,qr,tk,j]
  refine tU c (wkS2 q r) ?_;simp[go_sem,qr,j];rw[if_pos (zb _)];generalize i:putCells _ 0 (aI S.1 :: hB S.2)=P;have g:P=aI S.1 :: hB S.2:=by rw[<-i];exact pc (aI 0) _ (fun _=>false) _
  subst g;clear i;simp[go_sem,qr,tk];exact .hf _ (jM S _)
 .simp [go_sem,qr,tk,j]
  refine tU c (wkS2 q r) ?_;simp[go_sem,qr,j];rw[if_pos (zb _)];generalize i:putCells _ 0 (aI S.1 :: hB S.2)=P;have g:P=aI S.1 :: hB S.2:=by rw[<-i];exact pc (aI 0) _ (fun _=>false) _
  subst g;clear i;simp[go_sem,qr,tk];exact .hf _ (jM S _)
theorem ap10(ts n q r S)(h:n.op=10)(l:0<=q.1/\q.1<=1000)(o:0<=r.1/\r.1<=1000)(c:qg qc 234 [eRS q,eRS r] (eRS S)):prC ts n [q,r] S (decide (q.1+r.1<=3)):=by
 unfold prC;refine qSV call169 func169 rfl ?_;have j:ql.wrap (q.1+r.1)=q.1+r.1:=zWr;simp[go_sem,h];refine fG [0,1,2,3,4,5,7,8,9,10,11,12,13,14,15,16,18,6,17] [(0,0,[]),(1,0,[]),(2,0,[]),(3,0,[]),(4,0,[]),(5,0,[]),(7,0,[]),(8,0,[]),(9,0,[]),(10,0,[]),(11,0,[]),(12,0,[]),(13,0,[]),(14,0,[]),(15,0,[]),(16,0,[]),(18,0,[]),(6,1,[10,14]),(17,1,[10,14])] zKr zKr zSi ?_;simp[go_sem,qr,tk,j];refine tU c (wkS2 q r) ?_;simp[go_sem,qr];rw[if_pos (zb _)];generalize i:putCells _ 0 (aI S.1 :: hB S.2)=P;have g:P=aI S.1 :: hB S.2:=by rw[<-i];exact pc (aI 0) _ (fun _=>false) _
 subst g;clear i;simp[go_sem,qr,tk];exact .hf _ (jM S _)
theorem ap11(ts n q S)(h:n.op=11)(c:qg qc 235 [eRS q] (eRS S)):prC ts n [q] S (decide (q.1=2)):=by
 unfold prC;refine qSV call169 func169 rfl ?_;simp[go_sem,h];refine fG [0,1,2,4,5,6,7,8,10,3,9] [(0,0,[]),(1,0,[]),(2,0,[]),(4,0,[]),(5,0,[]),(6,0,[]),(7,0,[]),(8,0,[]),(10,0,[]),(3,1,[7]),(9,1,[7])] zKr zKr zSi ?_;simp[go_sem,qr,tk];refine tU c (wkS1 q) ?_;simp[go_sem,qr];rw[if_pos (zb _)];generalize i:putCells _ 0 (aI S.1 :: hB S.2)=P;have g:P=aI S.1 :: hB S.2:=by rw[<-i];exact pc (aI 0) _ (fun _=>false) _
 subst g;clear i;simp[go_sem,qr,tk];exact .hf _ (jM S _)
theorem ap12(ts n q S)(h:n.op=12)(c:qg qc 236 [eRS q] (eRS S)):prC ts n [q] S (decide (q.1=2)):=by
 unfold prC;refine qSV call169 func169 rfl ?_;simp[go_sem,h];refine fG [0,1,2,4,5,6,7,8,10,3,9] [(0,0,[]),(1,0,[]),(2,0,[]),(4,0,[]),(5,0,[]),(6,0,[]),(7,0,[]),(8,0,[]),(10,0,[]),(3,1,[7]),(9,1,[7])] zKr zKr zSi ?_;simp[go_sem,qr,tk];refine tU c (wkS1 q) ?_;simp[go_sem,qr];rw[if_pos (zb _)];generalize i:putCells _ 0 (aI S.1 :: hB S.2)=P;have g:P=aI S.1 :: hB S.2:=by rw[<-i];exact pc (aI 0) _ (fun _=>false) _
 subst g;clear i;simp[go_sem,qr,tk];exact .hf _ (jM S _)
theorem ap13(ts)(ok:okTS ts)(n q C S)(h:n.op=13)(c:qg qc 236 [eRS q] (eRS C))(c2:qg qc 231 [eRS C,eRS (qp (zu ts.sS.length 2))] (eRS S)):prC ts n [q] S (decide (q.1=2)):=by
 unfold prC;refine qSV call169 func169 rfl ?_;have c1:=allU ts ok 2 zOm;generalize qp (zu ts.sS.length 2)=D at *
 simp[go_sem,h];refine fG [0,1,2,4,7,8,9,10,11,13,3,5,6,12] [(0,0,[]),(1,0,[]),(2,0,[]),(4,0,[]),(7,0,[]),(8,0,[]),(9,0,[]),(10,0,[]),(11,0,[]),(13,0,[]),(3,1,[4,10]),(5,1,[10]),(6,1,[10]),(12,1,[10])] zKr zKr zSi ?_;simp[go_sem,qr,tk];refine tU c (wkS1 q) ?_;simp[go_sem,qr];refine tU c1 (wkTI ts 2) ?_;simp[go_sem,qr];refine tU c2 (wkS2 C D) ?_;simp[go_sem,qr];rw[if_pos (zb _)];generalize i:putCells _ 0 (aI S.1 :: hB S.2)=P;have g:P=aI S.1 :: hB S.2:=by rw[<-i];exact pc (aI 0) _ (fun _=>false) _
 subst g;clear i;simp[go_sem,qr,tk];exact .hf _ (jM S _)
theorem apO(ts n L)(C:n.op≠2)(I:n.op≠3)(J:n.op≠4)(P:n.op≠5)(R:n.op≠6)(g:n.op≠14)(T:n.op≠7)(U:n.op≠8)(i:n.op≠32)(j:n.op≠33)(h9:n.op≠9)(l:n.op≠10)(o:n.op≠11)(p:n.op≠12)(t:n.op≠13):prC ts n L zR true:=by
 unfold prC;refine qSV call169 func169 rfl ?_;simp[go_sem,C,I,J,P,R,g,T,U,i,j,h9,l,o,p,t];exact .hf _ (jM zR true)
end QN
namespace QO
open YF Y9 Y10 Y1 Y2 Y3 Y12 Y13 P1 P2 QD QE QF QH QI QJ QL QN PG PC
section
variable {ts:TS}
theorem qeF{n L S g b}(e:eRS S=eRS g)(h:prC ts n L S b):prC ts n L g b:=by
 grind [prC]
theorem qp8{n a b}(j:n.op=6\/n.op=14\/n.op=7\/n.op=8\/n.op=32\/n.op=33):∃ S,prC ts n [qp a,qp b] S (decide (a.ar=b.ar))/\(a.ar=b.ar->kd n.op=101->S=qp (vt n.op a b)):=by
 have l:∀ op:Int,op=6\/op=14->vt op a b=kSum a b:=fun op h=>by unfold vt;rw[if_pos h]
 by_cases g:a.ar=b.ar
 .rcases j with h|h|h|h|h|h
  .exact ⟨_,ap6 ts n _ _ _ h (by have:=jV (qp a) (qp b);rw[Vm g]at this;exact this),fun _ _=>by grind⟩
  .exact ⟨_,ap14 ts n _ _ _ h (by have:=jV (qp a) (qp b);rw[Vm g]at this;exact this),fun _ _=>by grind⟩
  .exact ⟨_,ap7 ts n _ _ _ h (by have:=JW (qp a) (qp b);rw[qpL g]at this;exact this),fun _ _=>by rw[h];rfl⟩
  .exact ⟨_,ap8 ts n _ _ h,fun _ _=>by rw[h];rfl⟩
  .exact ⟨_,ap32 ts n _ _ h,fun _ i=>by rw[h]at i;exact absurd i zDe⟩
  .exact ⟨_,ap33 ts n _ _ h,fun _ i=>by rw[h]at i;exact absurd i zDe⟩
 .rcases j with h|h|h|h|h|h
  .exact ⟨_,ap6 ts n _ _ _ h (jV (qp a) (qp b)),fun e=>absurd e g⟩
  .exact ⟨_,ap14 ts n _ _ _ h (jV (qp a) (qp b)),fun e=>absurd e g⟩
  .exact ⟨_,ap7 ts n _ _ _ h (JW (qp a) (qp b)),fun e=>absurd e g⟩
  .exact ⟨_,ap8 ts n _ _ h,fun e=>absurd e g⟩
  .exact ⟨_,ap32 ts n _ _ h,fun e=>absurd e g⟩
  .exact ⟨_,ap33 ts n _ _ h,fun e=>absurd e g⟩
theorem qp9(ok:okTS ts){n a}(l:okKd ts.sS.length a)(o:n.op=11\/n.op=12\/n.op=13):∃ S,prC ts n [qp a] S (decide (a.ar=2))/\(a.ar=2->S=qp (binK ts.sS.length n.op a)):=by
 have i:=ok.ns;by_cases g:a.ar=2
 .have p:=Ul l g i
  rcases o with h|h|h
  .exact ⟨_,ap11 ts n _ _ h (by have:=qdZ (qp a);rw[qpT l i g]at this;exact this),fun _=>by rw[h];rfl⟩
  .exact ⟨_,ap12 ts n _ _ h p,fun _=>by rw[h];rfl⟩
  .refine ⟨_,ap13 ts ok n _ _ (qp (kSum (kClo a) (zu ts.sS.length 2))) h p ?_,fun _=>by rw[h];rfl⟩
   have:=jV (qp (kClo a)) (qp (zu ts.sS.length 2));rw[Vm (show (kClo a).ar=2 from (JU l g).2)]at this;exact this
 .have j:=l.ar
  rcases o with h|h|h
  .exact ⟨_,ap11 ts n _ _ h (qdZ (qp a)),fun e=>absurd e g⟩
  .exact ⟨_,ap12 ts n _ _ h (qeE (qp a) j),fun e=>absurd e g⟩
  .exact ⟨_,ap13 ts ok n _ _ _ h (qeE (qp a) j) (jV _ _),fun e=>absurd e g⟩
theorem qqA(ts)(ok:okTS ts)(n l L)(e1:n.op≠1)(a0:n.op≠15)
  (h1:n.op=5\/n.op=11\/n.op=12\/n.op=13->∃ a,l=[some a]/\L=[qp a]/\okKd ts.sS.length a)
  (h2:n.op=6\/n.op=14\/n.op=7\/n.op=8\/n.op=32\/n.op=33\/n.op=9\/n.op=10->∃ a b,l=[some a,some b]/\L=[qp a,qp b]/\okKd ts.sS.length a/\okKd ts.sS.length b) :
  ∃ S b,prC ts n L S b/\ApE n.op (zy ts.sS.length n.op n.n n.pos l) S b:=by
 have C:=ok.ns;by_cases j:n.op=2
 .refine ⟨qp ⟨n.n,[]⟩,true,qeF (qeC n.n) (ap2 ts n L j),?_⟩
  unfold zy;rw[if_pos j];exact⟨rfl,fun _=>⟨_,rfl,rfl⟩⟩
 by_cases o:n.op=3
 .refine ⟨_,true,ap3 ts ok n L o,?_⟩
  unfold zy;rw[if_neg j,if_pos o];exact⟨rfl,fun _=>⟨_,rfl,rfl⟩⟩
 by_cases t:n.op=4
 .refine ⟨_,true,ap4 ts ok n L t,?_⟩
  unfold zy;rw[if_neg j,if_neg o,if_pos t];exact⟨rfl,fun _=>⟨_,rfl,rfl⟩⟩
 by_cases g1:n.op=5\/n.op=11\/n.op=12\/n.op=13
 .obtain ⟨a,rfl,rfl,I⟩:=h1 g1
  rw[apK1,if_neg j,if_neg o,if_neg t];by_cases P:n.op=5
  .rw [if_pos P]
   exact⟨_,true,ap5 ts n _ P,rfl,fun _=>⟨_,rfl,rfl⟩⟩
  have g:n.op=11\/n.op=12\/n.op=13:=zOm;rw[if_neg P,if_pos g];obtain⟨S,R,T⟩:=qp9 ok I g;refine⟨S,_,R,?_⟩;by_cases i:a.ar=2
  .rw [if_pos i]
   exact⟨decide_eq_true i,fun _=>⟨_,rfl,T i⟩⟩
  .rw [if_neg i]
   exact decide_eq_false i
 by_cases g2:n.op=6\/n.op=14\/n.op=7\/n.op=8\/n.op=32\/n.op=33\/n.op=9\/n.op=10
 .obtain ⟨a,b,rfl,rfl,I,U⟩:=h2 g2
  have ra:=I.ar;have rb:=U.ar;rw[apK2,if_neg j,if_neg o,if_neg t];by_cases g3:n.op=6\/n.op=14\/n.op=7\/n.op=8\/n.op=32\/n.op=33
  .rw [if_pos g3]
   obtain⟨S,R,T⟩:=qp8 (ts:=ts) (n:=n) (a:=a) (b:=b) g3;refine⟨S,_,R,?_⟩;by_cases i:a.ar=b.ar
   .rw [if_pos i]
    exact⟨decide_eq_true i,fun hk=>⟨_,rfl,T i hk⟩⟩
   .rw [if_neg i]
    exact decide_eq_false i
  rw[if_neg g3];by_cases J:n.op=9
  .rw [if_pos J]
   by_cases i:1<=a.ar+b.ar-2/\a.ar+b.ar-2<=3
   .rw [if_pos i]
    refine⟨_,_,ap9 ts n _ _ (qp (zL a b)) J (by show 0<=a.ar/\a.ar<=1000;omega) (by show 0<=b.ar/\b.ar<=1000;omega) ?_,decide_eq_true i,fun _=>⟨_,rfl,rfl⟩⟩;rw[<-qd4 I U C i];exact u7 _ _ (by show 0<=a.ar/\a.ar<=1000;omega) (by show 1<=b.ar/\b.ar<=1000;omega)
   .rw [if_neg i]
    exact⟨_,_,ap9 ts n _ _ _ J (by show 0<=a.ar/\a.ar<=1000;omega) (by show 0<=b.ar/\b.ar<=1000;omega) (u7 _ _ (by show 0<=a.ar/\a.ar<=1000;omega) (by show 1<=b.ar/\b.ar<=1000;omega)),decide_eq_false i⟩
  have p:n.op=10:=zOm;rw[if_neg J,if_pos p];by_cases i:a.ar+b.ar<=3
  .rw [if_pos i]
   refine⟨_,_,ap10 ts n _ _ (qp (uB a b)) p (by show 0<=a.ar/\a.ar<=1000;omega) (by show 0<=b.ar/\b.ar<=1000;omega) ?_,decide_eq_true i,fun _=>⟨_,rfl,rfl⟩⟩;rw[<-qpM I U C i];exact qd0 _ _ (by show 0<=a.ar/\a.ar<=1000;omega) (by show 0<=b.ar/\b.ar<=1000;omega)
  .rw [if_neg i]
   exact⟨_,_,ap10 ts n _ _ _ p (by show 0<=a.ar/\a.ar<=1000;omega) (by show 0<=b.ar/\b.ar<=1000;omega) (qd0 _ _ (by show 0<=a.ar/\a.ar<=1000;omega) (by show 0<=b.ar/\b.ar<=1000;omega)),decide_eq_false i⟩
 refine⟨zR,true,apO ts n L j o t zOm zOm zOm zOm zOm zOm zOm zOm zOm zOm zOm zOm,?_⟩;rw[Uv j o t zOm zOm zOm zOm zOm zOm zOm zOm zOm zOm zOm zOm];refine⟨rfl,fun hk=>?_⟩;have:=JV hk;omega
theorem qqB{ns}(o:ns<=4){q}(h:okKd ns q)(l:q.ar=1)(i):uC i q=true↔∀ k,k<4->(qp q).2 k=true->(k:Int)=i:=by
 unfold uC;rw[q8];constructor
 .intro p k P C
  rw[yU,l]at C;have:=p _ C.2;simpa[dig,pad] using this
 .intro p t I
  obtain⟨j,J,e⟩:=YY h o I;rw[l]at J e;have g:j<4:=J;have:=p j g ((yU q j).2 ⟨by rw[l];exact g,by rw[l,<-e];exact I⟩);rw[e];simp[dig,pad,this]
def ExR(c:Ck)(s:Scp)(inn:Bool)(n:Nd):Prop:=∃ S:RS,qg qc 100 [eVw c inn,lVr (envS s),eNd n] (.tup [eRS S,eDg (dgOf (exam c s inn n))])/\(kd n.op=101->∀ q,exam c s inn n = .ok (some q)->S=qp q)
theorem qeG(c inn):HF (eVw c inn):=HF.agg fun x g=>by
 simp only[qy,qK,or_false]at g;rcases g with rfl|rfl|rfl|rfl|rfl|rfl|rfl
 .exact Un _
 .exact ZH _
 .exact wX _
 .exact JO _
 .exact Vs _
 .exact HF.sc _
 .exact HF.sc _
theorem wkE(c inn l n):WKs [eVw c inn,lVr l,eNd n] [eVw c inn,lVr l,eNd n] := .zk (qeG c inn) (.zk (qp3 _) (.zk (qE n) .nil))
theorem wC(d):HF (eDg d):=HF.agg fun x g=>by
 simp only[qy,qK,or_false]at g;rcases g with rfl|rfl<;>exact HF.sc _
theorem qeH{c nm p}(i:okCk c)(h:zl c nm=some p):(c.ts.sT.any fun p=>decide (p.name=nm))=true:=by
 obtain⟨_,j⟩:=Qz i h;unfold zl at h;rw[List.findIdx?_eq_some_iff_getElem]at h;obtain⟨l,g,_⟩:=h;simp only[List.getElem_take]at g;exact List.any_eq_true.2 ⟨_,qt j,g⟩
theorem qqC{nm}(h:zl (mkCk ts ts.sT.length) nm=none):(ts.sT.any fun p=>decide (p.name=nm))=false:=by
 unfold zl at h;rw[List.findIdx?_eq_none_iff]at h;rw[List.any_eq_false];intro p g;have:p∈ts.sT.take ts.sT.length:=by rw[zi];exact g
 have:=h p this
 grind
theorem K9{n}(i:WfN n)(h:n.op=47):∀ k,k∈n.sD->kd k.op=101:=by
 have g:=i.shape;have e:shp n.op n.sD.length=some (qM (min n.sD.length 401) 101):=by
  unfold shp;rw[zIn,zIn,zIn,zIn,zIn,zIn,zIn,if_pos h]
 rw[e]at g;simp only[qo]at g;intro k j;have:kd k.op∈n.sD.map fun k=>kd k.op:=qn.2 ⟨k,j,rfl⟩
 grind
theorem qqD(c)(hc:okCk c)(s)(hs:ScOk c.ts.sS.length s)(n)(hw:WfN n)(b2:n.op=47)(ih:∀ k,k∈n.sD->ExR c s true k)(inn) :
  qg qc 167 [eVw c inn,lVr (envS s),eNd n] (eDg (dgOf (uE c s n))):=by
 generalize hR:uE c s n=R;unfold uE at hR;refine qSQ call167 func167 rfl { mt:=[3] } ?_;have bg:=hc.ts.np;have bh:=hw.len;have b3:=Vq c hc n.name;have b4:=Vq (mkCk c.ts c.ts.sT.length) (vu hc.ts (qj _)) n.name;have aq:∀ k:Int,WKs [eTS c.ts,aI k,aS n.name] [eTS c.ts,aI k,aS n.name]:=fun k => .zk (zw _) (.zs (.zs .nil))
 simp[go_sem];refine tU b3 (aq _) ?_;cases a0:zl c n.name with
 |none =>
  rw[a0]at hR;simp[go_sem,idxO];refine tU b4 (aq _) ?_;cases a4:zl (mkCk c.ts c.ts.sT.length) n.name with
  |none =>
   rw[qqC a4]at hR;subst hR;simp[go_sem,idxO,dgOf];exact .hf _ (wC (40,n.pos))
  |some p =>
   have ha:(c.ts.sT.any fun p=>decide (p.name=n.name))=true:=qeH (c:=mkCk c.ts c.ts.sT.length) (vu hc.ts (qj _)) a4;rw[ha]at hR;subst hR;have ad:¬(p:Int)<0:=zOm;simp[go_sem,idxO,dgOf,ad];exact .hf _ (wC (45,n.pos))
 |some p =>
  obtain⟨_,ae⟩:=Qz hc a0;rw[qeH hc a0,if_pos rfl,a0]at hR;simp only[qB ae]at hR;have ad:¬(p:Int)<0:=zOm;have bi:=hc.ts.pl _ (qt ae);simp[go_sem,idxO,ae,ad];generalize bj:c.ts.sT[p]=I at *
  by_cases a2:I.params.length=n.sD.length
  .rw [if_pos a2]at hR
   simp[go_sem,a2];have b5:=K9 hw b2;refine aA I.params.length (fun k U=>U.tm 1=lVr (envS s)/\U.tm 3 = .ptr 0 0/\U.tm 5 = .ip (cNd n)/\U.tm 6 = .ptr 1 0/\U.tm 8=lPm I.params/\U.tm 9=aI k/\U.mu[0]?=some (.arr (cVw c true))/\U.mu[1]?=some (.arr [aI 0,aI 0])/\zO c s n.pos (I.params.drop k) (n.sD.drop k)=R) ?_ ?_
   .simp [go_sem, *]
   rintro k U hk ⟨e1,e3,e5,e6,e8,e9,m0,m1,C⟩;have a9:1<U.mu.length:=(qh.1 m1).1;have J:∀(l:List Cell)(i:Nat),i<U.mu.length->(U.mu++l)[i]?=U.mu[i]?:=fun l i hi=>qG hi
   have a1:∀ c,(U.mu.set 1 c)[1]?=some c:=fun c=>qz a9
   have af:∀ c (l:List Cell),((U.mu++l).set 1 c)[1]?=some c:=fun c l=>qz zSo
   have ag:∀(l:List Cell)(h:0<(U.mu++l).length),(U.mu++l)[0] = .arr (cVw c true):=fun l h=>by
    grind
   have ah:∀(l:List Cell)(h:1<(U.mu++l).length),(U.mu++l)[1] = .arr [aI 0,aI 0]:=fun l h=>by
    grind
   by_cases au:k=I.params.length
   .subst au
    rw[zU,a2,zU]at C;simp only[zO]at C;subst C;simp[go_sem,e6,e8,e9,m1,a2,dgOf,a1];exact .hf _ (wC (0,0))
   have o:k<I.params.length:=zOm;have t:k<n.sD.length:=zOm;have w1:=zWk k;obtain⟨S,hi,hS⟩:=ih n.sD[k] (qt t);rw[zg o,zg t]at C;simp only[zO]at C;have b6:=jA hc (szN n.sD[k]) n.sD[k] s true;have av:=b5 n.sD[k] (qt t);have aw:=hw.kid (qt t);simp[go_sem,e8,e9,o];refine fG [0,1,2,3,4,5,6,7,8,9,10,11,12,13,14] [(0,0,[]),(1,0,[]),(2,0,[]),(3,0,[]),(4,0,[]),(5,0,[]),(6,0,[]),(7,1,[]),(8,0,[]),(9,0,[]),(10,0,[]),(11,2,[0,3,6]),(12,2,[0,3,6]),(13,1,[]),(14,1,[])] zKr zKr zSi ?_;simp[go_sem,e1,e3,e5,e9,m0,t];refine tU hi (wkE c true _ _) ?_;cases hx:exam c s true n.sD[k] with
   |error e =>
    rw[hx]at C;subst C;have he:=w7 c (szN n.sD[k]) n.sD[k] s true e (qj _) hx;have b7:¬e.1=0:=zOm;simp[go_sem,e3,qr,ag,dgOf];rw[if_pos (zb _)];generalize hP:putCells _ 0 (aI S.1 :: hB S.2)=P;have ai:P=aI S.1 :: hB S.2:=by rw[<-hP];exact pc (aI 0) _ (fun _=>false) _
    subst ai;clear hP;simp[go_sem,e6,b7];simp[go_sem,ah,e6];exact .hf _ (wC e)
   |ok ko =>
    obtain⟨q,rfl,hq⟩:=b6 ko (qj _) aw hs hx av;have b8:=hS av q hx;subst b8;rw[hx]at C;simp only at C;have b9:=hc.ts.ns;have ax:(qp q).1=q.ar:=rfl;have ay:=fun h=>qqB b9 hq h I.params[k].2
    generalize qp q=Q at *
    simp[go_sem,e3,qr,ag,dgOf];rw[if_pos (zb _)];generalize hP:putCells _ 0 (aI Q.1 :: hB Q.2)=P;have ai:P=aI Q.1 :: hB Q.2:=by rw[<-hP];exact pc (aI 0) _ (fun _=>false) _
    subst ai;clear hP;by_cases a3:q.ar=1
    .rw [if_pos a3]at C
     have a5:Q.1=1:=ax.trans a3;simp[go_sem,qr,a5];have be:I.params[k].2<4/\0<=I.params[k].2:=by grind
     refine aA 4 (fun j g=>∃ b,2<=b/\g.tm 10 = .ptr b 0/\g.mu[b]?=some (.arr (aI 1 :: hB Q.2))/\g.tm 1=lVr (envS s)/\g.tm 3 = .ptr 0 0/\g.tm 5 = .ip (cNd n)/\g.tm 6 = .ptr 1 0/\g.tm 8=lPm I.params/\g.tm 9=aI k/\g.tm 12=aI j/\g.mu[0]?=some (.arr (cVw c true))/\g.mu[1]?=some (.arr [aI 0,aI 0]) /\
      ∀ i:Nat,i<j->Q.2 i=true->(i:Int)=I.params[k].2) ?_ ?_
     .exact ⟨U.mu.length,zOm,zSi,zSi,zS1 e1,zS1 e3,zS1 e5,zS1 e6,zS1 e8,zS1 e9,zSi,by simp only[qI];rw[J _ _ zOm];exact m0,by simp only[qI];rw[J _ _ zOm];exact m1,fun i hi=>zOm⟩
     .clear e1 e3 e5 e6 e8 e9 m0 m1 J a1 af ag ah a9
      rintro j st2 hj ⟨b,hb,a6,mb,e1,e3,e5,e6,e8,e9,aa,m0,m1,a7⟩;have a9:1<st2.mu.length:=(qh.1 m1).1;have a1:∀ c,(st2.mu.set 1 c)[1]?=some c:=fun c=>qz a9
      by_cases aj:j<4
      .have ak:(j:Int)<4:=by omega
       have az:j<64:=zOm;have T:(j:Int)<64:=zOm;have wj:=zWk j;have a8:=d1 (aI 1) Q.2 j az;have al:1+j<=64:=zOm;by_cases hQ:Q.2 j=true
       .rw [hQ]at a8
        by_cases ab:(j:Int)=I.params[k].2
        .have bb:=eq_true ab
         simp[go_sem,a6,mb,e8,e9,aa,ak,T,a8,al,qr,o,bb,wj];refine⟨aj,aC ⟨b,hb,zS1 a6,zS1 mb,zS1 e1,zS1 e3,zS1 e5,zS1 e6,zS1 e8,zS1 e9,zSi,zS1 m0,zS1 m1,fun i hi h=>?_⟩⟩;by_cases an:i=j
         .subst an;exact ab
         .exact a7 i zOm h
        .have b0:¬uC I.params[k].2 q=true:=fun h=>ab ((ay a3).1 h j aj hQ)
         rw[if_neg b0]at C;subst C;simp[go_sem,a6,mb,e5,e6,e8,e9,aa,ak,T,a8,al,qr,o,ab,m1,a1];exact .hf _ (wC (43,n.pos))
       .have hQ:Q.2 j=false:=by simpa using hQ
        rw[hQ]at a8;simp[go_sem,a6,mb,aa,ak,T,a8,al,qr,wj];refine⟨aj,aC ⟨b,hb,zS1 a6,zS1 mb,zS1 e1,zS1 e3,zS1 e5,zS1 e6,zS1 e8,zS1 e9,zSi,zS1 m0,zS1 m1,fun i hi h=>?_⟩⟩;by_cases an:i=j
        .subst an;rw[hQ]at h;cases h
        .exact a7 i zOm h
      .have bc:j=4:=by omega
       subst bc;have ao:uC I.params[k].2 q=true:=(ay a3).2 fun i hi h=>a7 i hi h
       rw[if_pos ao]at C;simp[go_sem,e9,aa,w1];exact⟨o,aC ⟨zS1 e1,zS1 e3,zS1 e5,zS1 e6,zS1 e8,zSi,zS1 m0,zS1 m1,C⟩⟩
    .rw [if_neg a3]at C
     subst C;have a5:¬Q.1=1:=fun e=>a3 (ax.symm.trans e)
     simp[go_sem,e5,qr,a5,ah,e6];exact .hf _ (wC (42,n.pos))
  .rw [if_neg a2]at hR
   subst hR;have b1:¬n.sD.length=I.params.length:=fun e=>a2 e.symm
   simp[go_sem,b1,dgOf];exact .hf _ (wC (45,n.pos))
end
end QO
namespace QR
open Y9 Y10 Y1 Y2 Y12 P1 P2 QE QF QJ QL QN PG QO
theorem Wb{n}(i:WfN n)(h:n.op=15\/n.op=45\/n.op=46):∃ a f,n.sD=[a,f]/\kd a.op=101:=by
 have g:=i.shape;unfold shp at g;rw[zIn,zIn,zIn,if_pos zOm]at g;simp only[qo]at g
 match j:n.sD,g with
 | [a,f],g =>
  grind
 | [],g=>simp at g
 | [_],g=>simp at g
 |_ :: _ :: _ :: _,g=>simp at g
theorem five{J:Type}{l}{a b c d e:J}(g:l[0]?=some a)(i:l[1]?=some b)(j:l[2]?=some c)(o:l[3]?=some d)(p:l[4]?=some e):∃ r,l=a :: b :: c :: d :: e :: r:=by
 match l,g,i,j,o,p with
 |_ :: _ :: _ :: _ :: _ :: r,g,i,j,o,p =>
  simp_all
def Vu:Res->RS
 | .ok (some k)=>if k.ar=1 then qp k else zR
 |_=>zR
theorem qqE(s d):FL (.tup [eRS s,eDg d]):=FL.tup fun x i=>by
 rcases qy.1 i with rfl|i
 .exact FL.agg fun c g=>by
   rcases qy.1 g with rfl|g
   .exact FL.sc _
   .obtain ⟨j,_,rfl⟩:=qn.1 g
    exact FL.sc _
 .rw [qS]at i;subst i
  exact FL.agg fun c g=>by
   rcases qy.1 g with rfl|g
   .exact FL.sc _
   .rw [qS]at g;subst g;exact FL.sc _
theorem qqF(c)(hc:okCk c)(s)(hs:ScOk c.ts.sS.length s)(ay:s.length<=90000)(n a g)(hw:WfN n)(hb:n.op=15\/n.op=45\/n.op=46)(t:n.sD=[a,g])(a6:kd a.op=101)(inn)
  (af:ExR c s (inn||decide (n.op=15)) a) (ag:∀ k,okKd c.ts.sS.length k->k.ar=1->ExR c ((n.name,k) :: s) (inn||decide (n.op=15)) g) :
  qg qc 168 [eVw c inn,lVr (envS s),eNd n] (.tup [eRS (Vu (exam c s (inn||decide (n.op=15)) a)),eDg (dgOf (z7 c s (inn||decide (n.op=15)) n.name n.pos n.sD))]):=by
 have wa:=hw.kid (k:=a) (by rw[t];simp);obtain⟨S,ca,hS⟩:=af;have ah:=jA hc (szN a) a s (inn||decide (n.op=15));have a7:=w7 c (szN a) a s (inn||decide (n.op=15));rw[t];have w1:=wkE c (inn||decide (n.op=15)) (envS s) a;have ai:n.op=15->(inn||decide (n.op=15))=true:=fun h=>zP1 h
 have aj:¬n.op=15->(inn||decide (n.op=15))=inn:=fun h=>zP1 h
 generalize (inn||decide (n.op=15))=B at *
 generalize hE:dgOf (z7 c s B n.name n.pos [a,g])=E;generalize hX:exam c s B a=X at *
 have a8:∀ k,okKd c.ts.sS.length k->k.ar=1->X = .ok (some k)->∃ S2,qg qc 100 [eVw c B,lVr (envS ((n.name,k) :: s)),eNd g] (.tup [eRS S2,eDg E]):=fun k hk o ak=>by
  obtain⟨S2,cg,_⟩:=ag k hk o;refine⟨S2,?_⟩;have a0:E=dgOf (exam c ((n.name,k) :: s) B g):=by
   rw[<-hE];simp only[z7,qL];rw[hX,ak];simp only;rw[if_pos o];cases exam c ((n.name,k) :: s) B g<;>rfl
  grind
 refine qSQ call168 func168 rfl { mt:=[3] } ?_;by_cases a2:n.op=15
 case' pos =>
  have a3:=ai a2;subst a3
 case' neg =>
  have a3:=aj a2;subst a3
 all_goals
  simp[go_sem,a2];refine fG [0,1,2,3,4,5,6,7,8,9,10,11,12,13] [(0,0,[]),(1,0,[]),(2,0,[]),(3,0,[]),(4,0,[]),(5,0,[]),(6,1,[]),(7,0,[]),(8,0,[]),(9,0,[]),(10,2,[0,3,5]),(11,2,[0,3,5]),(12,1,[]),(13,1,[])] zKr zKr zSi ?_;simp[go_sem,t];refine tU ca w1 ?_;simp[go_sem,qr,t];rw[if_pos (zb _)];generalize hP:putCells _ 0 (aI S.1 :: hB S.2)=P;have J:P=aI S.1 :: hB S.2:=by rw[<-hP];exact pc (aI 0) _ (fun _=>false) _
  subst J;clear hP;simp[go_sem]
 all_goals
  cases X with
  |error e =>
   have he:=a7 e (qj _) rfl;have al:¬e.1=0:=zOm;have a0:E=e:=by rw[<-hE];simp only[z7];rw[hX];rfl
   subst a0;clear hE;simp[go_sem,dgOf,al];refine fG [0,1,2,3] [(0,0,[]),(1,0,[]),(2,1,[1]),(3,1,[])] zKr zKr zSi ?_;simp[go_sem];exact .hf _ (vj zR E)
  |ok ko =>
   obtain⟨q,rfl,hq⟩:=ah ko (qj _) wa hs rfl a6;have an:=hS a6 q rfl;subst an;have a9:(qp q).1=q.ar:=rfl;by_cases o:q.ar=1
   .have R:(qp q).1=1:=a9.trans o
    obtain⟨S2,cg⟩:=a8 q hq o rfl;have a4:Vu (.ok (some q))=qp q:=if_pos o;rw[a4];have aa:envS ((n.name,q) :: s)=envS s++[(n.name,qp q)]:=by simp[envS]
    rw[aa]at cg;generalize qp q=Q at *
    obtain⟨qa,T⟩:=Q;have a5:qa=1:=R;subst a5;simp[go_sem,dgOf];refine fG [0,1,2,4,5,6,7,8,10,11,12,13,3,9,14,15,16,17,18,19,20,21] [(0,0,[]),(1,0,[]),(2,0,[]),(4,0,[]),(5,0,[]),(6,0,[]),(7,0,[]),(8,0,[]),(10,0,[]),(11,0,[]),(12,0,[]),(13,0,[]),(3,1,[0,5,6,11,13]),(9,1,[0,11,13]),(14,1,[]),(15,0,[]),(16,0,[]),(17,0,[]),(18,2,[0,5,6,11,13]),(19,2,[0,5,6,11,13]),(20,1,[]),(21,1,[])] zKr zKr zSi ?_;simp[go_sem,qr,tk];rw[if_pos (zb _)];generalize hC:putCells _ 1 _=C;have ao:C=cVr (n.name,(1,T)):=by rw[<-hC];exact pcV n.name (1,T)
    subst ao;clear hC;have aq:(cVr (n.name,((1:Int),T))).length=66:=by simp[qr]
    have au:=kQ (n.name,((1:Int),T));generalize hV:cVr (n.name,((1:Int),T))=V at *
    simp[go_sem,aq];rw[if_pos au];simp[go_sem,t];refine kS (lo:=5) (xs:=[]) (ys:=envS s) (OwnF.nil zSp) (by simp[qA]) (by simp[Wm];omega) fun az m1 av U=>?_
    have k0:=U 0 zOm;have k1:=U 1 zOm;have k2:=U 2 zOm;have k3:=U 3 zOm;have k4:=U 4 zOm;simp at k0 k1 k2 k3 k4;simp[go_sem,qr,tk,t,k0,k3];refine kS (xs:=[]++envS s) (ys:=[(n.name,(1,T))]) av (by simp[qA,hV]) (by simp[Wm];omega) fun b0 m2 a1 I=>?_
    rw[jk]at a1;have aw:=a1.2.2;replace k0:=(I 0 zOm).trans k0;replace k1:=(I 1 zOm).trans k1;replace k2:=(I 2 zOm).trans k2;replace k3:=(I 3 zOm).trans k3;replace k4:=(I 4 zOm).trans k4;have j:∀(l:List Cell)(i:Nat),i<m2.length->(m2++l)[i]?=m2[i]?:=fun l i hi=>qG hi
    have g0:=(qh.1 k0).2;have g1:=(qh.1 k1).2;have g2:=(qh.1 k2).2;have g3:=(qh.1 k3).2;simp[go_sem,t,k0];refine fW (args':=[eVw c _,lVr (envS s++[(n.name,(1,T))]),eNd g]) cg ⟨.hf _ (qeG c _),rdVr a1,.hf _ (qE g),trivial⟩ (qqE S2 _) ?_;have p0:=fun l=>(j l 0 zOm).trans k0
    have p1:=fun l=>(j l 1 zOm).trans k1
    have p2:=fun l=>(j l 2 zOm).trans k2
    have p3:=fun l=>(j l 3 zOm).trans k3
    have p4:=fun l=>(j l 4 zOm).trans k4
    have ab:0<m2.length:=zOm;have ad:3<m2.length:=zOm;simp[go_sem,qr,tk,t,g0,g3,ab,ad,p3];rw[if_pos (zb _)];generalize hP:putCells _ 0 (cRS S2)=P;have J:P=cRS S2:=by rw[<-hP];exact pc (aI 0) _ (fun _=>false) _
    subst J;clear hP;simp[go_sem];obtain⟨rr,ae⟩:=five k0 k1 k2 k3 k4;have b1:m2.length=rr.length+5:=by rw[ae];rfl
    clear g0 g1 g2 g3 p0 p1 p2 p3 p4 j a1 I k0 k1 k2 k3 k4 aw ab ad;refine fG [0,1,2,3] [(0,0,[]),(1,0,[]),(2,1,[1]),(3,1,[])] zKr zKr zSi ?_;simp[go_sem,qr,tk,ae];rw[if_pos (zb _)];generalize hP:putCells _ 0 (aI 1 :: hB T)=P;have J:P=aI 1 :: hB T:=by rw[<-hP];exact pc (aI 0) (aI 1) (fun _=>false) T
    subst J;clear hP;simp[go_sem,qr,tk];exact .hf _ (vj (1,T) E)
   .have R:¬(qp q).1=1:=fun e=>o (a9.symm.trans e)
    have a4:Vu (.ok (some q))=zR:=if_neg o;rw[a4];have a0:E=(42,n.pos):=by
     rw[<-hE];simp only[z7];rw[hX];simp only;rw[if_neg o];rfl
    subst a0;clear hE;generalize qp q=Q at *
    simp[go_sem,dgOf,R];refine fG [0,1,2,3,4,5] [(0,0,[]),(1,0,[]),(2,0,[]),(3,0,[]),(4,1,[2]),(5,1,[])] zKr zKr zSi ?_;simp[go_sem];exact .hf _ (vj zR (42,n.pos))
theorem qqG(ts)(ok:okTS ts)(n l)(t:n.op≠1)(o:n.op≠15)
  (C:n.op=5\/n.op=11\/n.op=12\/n.op=13->∃ a,l=[some a]/\okKd ts.sS.length a)
  (I:n.op=6\/n.op=14\/n.op=7\/n.op=8\/n.op=32\/n.op=33\/n.op=9\/n.op=10->∃ a b,l=[some a,some b]/\okKd ts.sS.length a/\okKd ts.sS.length b) :
  ∃ S b,(∀ L,((n.op=5\/n.op=11\/n.op=12\/n.op=13)\/(n.op=6\/n.op=14\/n.op=7\/n.op=8\/n.op=32\/n.op=33\/n.op=9\/n.op=10)->L=l.map setO)->prC ts n L S b)/\ApE n.op (zy ts.sS.length n.op n.n n.pos l) S b:=by
 by_cases R:(n.op=5\/n.op=11\/n.op=12\/n.op=13)\/(n.op=6\/n.op=14\/n.op=7\/n.op=8\/n.op=32\/n.op=33\/n.op=9\/n.op=10)
 .obtain ⟨S,b,c,a⟩:=qqA ts ok n l (l.map setO) t o (fun h=>by obtain⟨a,rfl,p⟩:=C h;exact⟨a,rfl,rfl,p⟩) (fun h=>by obtain⟨a,b,rfl,p,J⟩:=I h;exact⟨a,b,rfl,rfl,p,J⟩)
  grind
 by_cases g:n.op=2
 .refine ⟨qp ⟨n.n,[]⟩,true,fun L _=>qeF (qeC n.n) (ap2 ts n L g),?_⟩
  unfold zy;rw[if_pos g];exact⟨rfl,fun _=>⟨_,rfl,rfl⟩⟩
 by_cases i:n.op=3
 .refine ⟨_,true,fun L _=>ap3 ts ok n L i,?_⟩
  unfold zy;rw[if_neg g,if_pos i];exact⟨rfl,fun _=>⟨_,rfl,rfl⟩⟩
 by_cases j:n.op=4
 .refine ⟨_,true,fun L _=>ap4 ts ok n L j,?_⟩
  unfold zy;rw[if_neg g,if_neg i,if_pos j];exact⟨rfl,fun _=>⟨_,rfl,rfl⟩⟩
 refine⟨zR,true,fun L _=>apO ts n L g i j zOm zOm zOm zOm zOm zOm zOm zOm zOm zOm zOm zOm,?_⟩;rw[Uv g i j zOm zOm zOm zOm zOm zOm zOm zOm zOm zOm zOm zOm];refine⟨rfl,fun P=>?_⟩;have:=JV P;omega
def resS:Res->RS
 | .ok (some k)=>qp k
 |_=>zR
theorem qqH(R):endR zR R = .tup [eRS (resS R),eDg (dgOf R)]:=by
 cases R with
 |error e=>rfl
 |ok k=>cases k<;>rfl
end QR
namespace QS
open YZ YF Y9 Y10 Y1 Y2 Y13 P1 P2 QE QF QI QJ QL QN PG QO QR
theorem Wn(c op nm):zX c op nm=(yw op||(decide (op=47)&&tpB c nm)):=rfl
theorem qqI{ns op n pos l e}(h:zy ns op n pos l = .error e):e=(42,pos):=by
 unfold zy at h
 repeat' split at h
 all_goals grind
theorem wkTP(c:Ck)(nm):WKs [eTS c.ts,lBo c.timed,aI c.calls,aS nm] [eTS c.ts,lBo c.timed,aI c.calls,aS nm] := .zk (zw _) (.zk (Vs _) (.zs (.zs .nil)))
theorem wk1I(k):WKs [aI k] [aI k] := .zs .nil
theorem fl_sb(s b):FL (.tup [eRS s,aB b]):=FL.tup fun x i=>by
 rcases qy.1 i with rfl|i
 .exact FL.agg fun c g=>by
   rcases qy.1 g with rfl|g
   .exact FL.sc _
   .obtain ⟨j,_,rfl⟩:=qn.1 g
    exact FL.sc _
 grind [qS,FL.sc]
theorem qqJ(c)(i:okCk c)(s n)(g:zX c n.op n.name=true):ExR c s true n:=by
 refine⟨zR,?_,fun _ q h=>?_⟩
 case refine_2=>simp_all[yI,if_pos]
 have j:exam c s true n = .error (46,n.pos):=by simp_all[yI,if_pos]
 rw[j];rw[Wn]at g;refine qSQ call100 func100 rfl { mt:=[3] } ?_;have l:=Ja n.op;have o:=Jb c i n.name;simp[go_sem];refine tU l (wk1I _) ?_;cases p:yw n.op with
 |true =>
  simp[go_sem];refine fG [0,1,2,3,4,5] [(0,0,[]),(1,0,[]),(2,0,[]),(3,0,[]),(4,1,[2]),(5,1,[])] zKr zKr zSi ?_;simp[go_sem,dgOf];exact .hf _ (vj zR (46,n.pos))
 |false =>
  rw[p,Bool.false_or,qD]at g;obtain⟨h47,hB⟩:=g;have h47:n.op=47:=by simpa using h47
  simp[go_sem,h47];refine tU o (wkTP c n.name) ?_;rw[hB];simp[go_sem];refine fG [0,1,2,3,4,5] [(0,0,[]),(1,0,[]),(2,0,[]),(3,0,[]),(4,1,[2]),(5,1,[])] zKr zKr zSi ?_;simp[go_sem,dgOf];exact .hf _ (vj zR (46,n.pos))
theorem qqK(c)(l:okCk c)(s)(g:s.length<=100000)(inn n)(i:n.op=1):ExR c s inn n:=by
 have o:exam c s inn n=yH c s n.name n.pos:=by
  rw[yI,Wn,i,show yw 1=false from rfl];simp
 refine⟨resS (yH c s n.name n.pos),?_,fun _ q h=>by rw[o]at h;rw[h];rfl⟩;rw[o];have p:=wo c l inn s n g;rw[qqH]at p;generalize resS (yH c s n.name n.pos)=S at *
 generalize dgOf (yH c s n.name n.pos)=D at *
 refine qSQ call100 func100 rfl { mt:=[3] } ?_;have t:=Ja n.op;have R:=Jb c l n.name;have I:yw n.op=false:=by rw[i];rfl
 rw[I]at t;have J:=wkE c inn (envS s) n;cases inn
 case' true =>
  simp[go_sem];refine tU t (wk1I _) ?_
 all_goals
  simp[go_sem,i];refine tU p J ?_;simp[go_sem,qr];rw[if_pos (zb _)];generalize C:putCells _ 0 (aI S.1 :: hB S.2)=P;have j:P=aI S.1 :: hB S.2:=by rw[<-C];exact pc (aI 0) _ (fun _=>false) _
  subst j;clear C;simp[go_sem,qr,QE.tk];exact .hf _ (vj S D)
theorem qqL(c)(i:okCk c)(s)(t:ScOk c.ts.sS.length s)(inn n)(C:WfN n)(h47:n.op=47)(g:(inn&&zX c n.op n.name)=false)(I:∀ k,k∈n.sD->ExR c s true k):ExR c s inn n:=by
 have J:exam c s inn n=uE c s n:=by
  rw[yI,g,if_neg zSp,zIn,if_pos h47];rfl
 have P:=qqD c i s t n C h47 I inn;refine⟨zR,?_,fun j=>by rw[h47]at j;exact absurd j zDe⟩;rw[J];generalize dgOf (uE c s n)=D at *
 refine qSQ call100 func100 rfl { mt:=[3] } ?_;have l:=Ja n.op;have o:=Jb c i n.name;have p:yw n.op=false:=by rw[h47];rfl
 rw[p]at l;have R:=wkE c inn (envS s) n;cases inn
 case' true =>
  rw[Bool.true_and,Wn,p,h47]at g;have hB:tpB c n.name=false:=zUs g;rw[hB]at o;simp[go_sem];refine tU l (wk1I _) ?_;simp[go_sem,h47];refine tU o (wkTP c n.name) ?_
 all_goals
  simp[go_sem,h47];refine fR P R ?_;exact .hf _ (vj zR D)
theorem qqM(c)(R:okCk c)(s)(o:ScOk c.ts.sS.length s)(p:s.length<=90000)(inn n)(T:WfN n)(l:n.op=15\/n.op=45\/n.op=46)(ht:(inn&&zX c n.op n.name)=false)(U:∀ k,k∈n.sD->∀ s',ScOk c.ts.sS.length s'->s'.length<=s.length+1->∀ inn,ExR c s' inn k):ExR c s inn n:=by
 have hx:exam c s inn n=z7 c s (inn||decide (n.op=15)) n.name n.pos n.sD:=by
  rw[yI,ht,if_neg zSp,zIn,zIn,if_pos l]
 obtain⟨a,g,i,t⟩:=Wb T l;have cb:=qqF c R s o p n a g T l i t inn (U a (by rw[i];simp) s o zOm _) (fun k hk j=>U g (by rw[i];simp) _ (fun v C=>by
  rcases qy.1 C with rfl|C
  .grind
  .exact o v C) zSp _)
 refine⟨Vu (exam c s (inn||decide (n.op=15)) a),?_,fun _ q h=>?_⟩
 case refine_2 =>
  rw[hx,i]at h;simp only[z7]at h;split at h
  .cases h
  .cases h
  .rename_i k hk
   split at h
   .rename_i j
    split at h
    .cases h
    .cases h
     rw[hk];exact if_pos j
   .cases h
 rw[hx];generalize Vu (exam c s (inn||decide (n.op=15)) a)=S at *
 generalize dgOf (z7 c s (inn||decide (n.op=15)) n.name n.pos n.sD)=D at *
 refine qSQ call100 func100 rfl { mt:=[3] } ?_;have I:=Ja n.op;have cp:=Jb c R n.name;have h47:¬n.op=47:=zOm;have hT:yw n.op=false:=by grind [yw]
 rw[hT]at I;have wn:=wkE c inn (envS s) n;rcases l with h|h|h
 all_goals
  rw[h]at I;cases inn
 all_goals
  simp[go_sem,h]
  try (refine tU I (wk1I _) ?_)
  try simp[go_sem,h]
  refine tU cb wn ?_;simp[go_sem,qr];rw[if_pos (zb _)];generalize hP:putCells _ 0 (aI S.1 :: hB S.2)=P;have J:P=aI S.1 :: hB S.2:=by rw[<-hP];exact pc (aI 0) _ (fun _=>false) _
  subst J;clear hP;simp[go_sem,qr,QE.tk];exact .hf _ (vj S D)
def seqL(X:Nd->Res):List Nd->Except Dg (List (Option Kd))
 | [] => .ok []
 |k :: ks=>match X k with
  | .error e => .error e
  | .ok a=>match seqL X ks with
   | .error e => .error e
   | .ok l => .ok (a :: l)
theorem qeI(c s B):∀ ks,qL c s B ks=seqL (exam c s B) ks
 | []=>by simp only[qL,seqL]
 |k :: ks=>by simp only[qL,seqL];rw[qeI c s B ks];cases exam c s B k with
  |error e=>rfl
  |ok a=>cases seqL (exam c s B) ks<;>rfl
theorem kW{J:Type}{l}{a b c:J}(g:l[0]?=some a)(i:l[1]?=some b)(j:l[2]?=some c):∃ r,l=a :: b :: c :: r:=by
 match l,g,i,j with
 |_ :: _ :: _ :: r,g,i,j =>
  grind
theorem qqN{n}(j:WfN n)(h:(n.op=5\/n.op=11\/n.op=12\/n.op=13)\/(n.op=6\/n.op=14\/n.op=7\/n.op=8\/n.op=32\/n.op=33\/n.op=9\/n.op=10)):∀ x,x∈n.sD->kd x.op=101:=by
 have g:=j.shape;intro x l;have i:kd x.op∈n.sD.map fun k=>kd k.op:=qn.2 ⟨x,l,rfl⟩
 rcases h with h|h
 .unfold shp at g
  rw[zIn,if_pos zOm]at g
  grind
 .unfold shp at g
  rw[zIn,zIn,if_pos zOm]at g;simp only[qo]at g;rw[<-g]at i;simpa using i
set_option maxHeartbeats 2000000 in
theorem ex_t(c)(hc:okCk c)(s n inn B X S D)(h1:¬n.op=1)(h47:¬n.op=47)(hb:¬(n.op=15\/n.op=45\/n.op=46))(hw:WfN n)(aw:n.sD.length<=401)(hT:inn=true->yw n.op=false)(a6:n.op=12->B=true)(a7:n.op=13->B=true)(ag:¬n.op=12->¬n.op=13->B=inn)
  (ah:∀ k,k∈n.sD->∃ S,qg qc 100 [eVw c B,lVr (envS s),eNd k] (.tup [eRS S,eDg (dgOf (X k))])/\(kd k.op=101->∀ q,X k = .ok (some q)->S=qp q))
  (a8:∀ k a,k∈n.sD->X k = .ok a->kd k.op=101->∃ q,a=some q/\okKd c.ts.sS.length q)
  (a2:∀ k e,X k = .error e->40<=e.1)
  (ai:∀ e,seqL X n.sD = .error e->S=zR/\D=e)
  (aj:∀ l,seqL X n.sD = .ok l->∃ S' b,(∀ L,((n.op=5\/n.op=11\/n.op=12\/n.op=13)\/(n.op=6\/n.op=14\/n.op=7\/n.op=8\/n.op=32\/n.op=33\/n.op=9\/n.op=10)->L=l.map setO)->prC c.ts n L S' b)/\(b=true->S=S'/\D=(0,0))/\(b=false->S=zR/\D=(42,n.pos))) :
  qg qc 100 [eVw c inn,lVr (envS s),eNd n] (.tup [eRS S,eDg D]):=by
 simp only[not_or]at hb;obtain⟨b1,b2,b3⟩:=hb;refine qSQ call100 func100 rfl { mt:=[3] } ?_;have ct:=Ja n.op;have cp:=Jb c hc n.name;cases inn
 all_goals first
  | (rw[hT rfl]at ct;simp[go_sem];refine tU ct (wk1I _) ?_)
  |skip
 all_goals simp[go_sem,h1,h47,b1,b2,b3]
 all_goals rcases (show n.op=12\/(¬n.op=12/\n.op=13)\/(¬n.op=12/\¬n.op=13) by omega) with C|⟨C,a0⟩|⟨C,a0⟩
 all_goals first|simp[go_sem,C,a0] | simp[go_sem,C]
 all_goals first|have a3:=a6 C|have a3:=a7 a0|have a3:=ag C a0
 all_goals
  refine aA n.sD.length (fun k U=>∃(j:List (Option Kd)) (L:List RS),j.length=k/\L.length=k/\U.tm 1=lVr (envS s)/\U.tm 3 = .ptr 0 0/\U.tm 5 = .ip (cNd n)/\U.tm 6 = .ptr 1 0/\U.tm 7 = .ptr 2 0/\U.tm 9=aI k/\U.mu[0]?=some (.arr (cVw c B))/\U.mu[1]?=some (.arr (aI 0 :: hB fun _=>false))/\U.mu[2]?=some (.arr [aI 0,aI 0])/\OwnF 3 U.mu 65 (U.tm 8) (L.map cRS)/\(∀(i:Nat) x,n.sD[i]?=some x->i<k->kd x.op=101->∃ q,j[i]?=some (some q)/\L[i]?=some (qp q))/\seqL X n.sD=(match seqL X (n.sD.drop k) with | .error e => .error e | .ok l => .ok (j++l))) ?_ ?_
  .refine ⟨[],[],rfl,rfl,zSi,zSi,zSi,zSi,zSi,zSi,by rw[a3];simp[go_sem],by simp[go_sem];rfl,zSi,by simp_all[go_sem,OwnF.nil],fun i x _ h=>absurd h zOm,?_⟩
   grind
  rintro k U hk ⟨j,L,a9,aa,e1,e3,e5,e6,e7,e9,m0,m1,m2,ho,a1,I⟩;generalize h8:U.tm 8=t at *
  by_cases o:k<n.sD.length
  .have w1:=zWk k
   obtain⟨Sk,ck,ak⟩:=ah n.sD[k] (qt o);rw[zg o]at I;simp only[seqL]at I;simp[go_sem,e5,e9,o];refine fG [0,1,2,3,4,5,6,7,8,9,10,11,12,13,14] [(0,0,[]),(1,0,[]),(2,0,[]),(3,0,[]),(4,0,[]),(5,0,[]),(6,0,[]),(7,1,[]),(8,0,[]),(9,0,[]),(10,0,[]),(11,2,[0,3,6]),(12,2,[0,3,6]),(13,1,[]),(14,1,[])] zKr zKr zSi ?_;have ab:2<U.mu.length:=(qh.1 m2).1;have g:∀(l:List Cell)(i:Nat),i<U.mu.length->(U.mu++l)[i]?=U.mu[i]?:=fun l i J=>qG J
   have p0:=fun l=>(g l 0 zOm).trans m0
   have p1:=fun l=>(g l 1 zOm).trans m1
   have p2:=fun l=>(g l 2 zOm).trans m2
   have g0:=(qh.1 m0).2;have g1:=(qh.1 m1).2;have g2:=(qh.1 m2).2;have a4:0<U.mu.length:=zOm;have al:1<U.mu.length:=zOm;simp[go_sem,e1,e3,e5,e9,o,m0];refine tU ck (wkE c _ _ _) ?_;cases hx:X n.sD[k] with
   |error e =>
    have he:=a2 _ _ hx;have an:¬e.1=0:=zOm;rw[hx]at I;have I:seqL X n.sD = .error e:=I;obtain⟨ao,aq⟩:=ai e I;rw[ao,aq];simp[go_sem,e3,g0,a4,qr,dgOf];rw[if_pos (zb _)];generalize hP:putCells _ 0 (cRS Sk)=P;have R:P=cRS Sk:=by rw[<-hP];exact pc (aI 0) _ (fun _=>false) _
    subst R;clear hP;simp[go_sem,an];refine fG [0,1,2,3] [(0,0,[]),(1,0,[]),(2,1,[1]),(3,1,[])] zKr zKr zSi ?_;simp[go_sem,e6,e7,a4,qr,g1,g2,al,ab];exact .hf _ (vj zR e)
   |ok a =>
    rw[hx]at I;simp only at I;simp[go_sem,e3,g0,a4,qr,dgOf];rw[if_pos (zb _)];generalize hP:putCells _ 0 (cRS Sk)=P;have R:P=cRS Sk:=by rw[<-hP];exact pc (aI 0) _ (fun _=>false) _
    subst R;clear hP;simp[go_sem,h8,qr,QE.tk];rw[if_pos (zb _)];simp[go_sem];refine appRS (lo:=3) (xs:=L) (ys:=[Sk]) ⟨by simpa using JQ (JQ ho.1 _) _,ho.2.1,by grind⟩ (by simp[qA]) zSo fun ax m' ar a5=>?_
    simp[go_sem,e9,o,w1];refine aC ⟨j++[a],L++[Sk],zP1 a9,zP1 aa,zS1 e1,zS1 e3,zS1 e5,zS1 e6,by simp[go_sem,e7],zSi,?_,?_,?_,zVs ar,fun i x J ay T=>?_,?_⟩
    .simp only[qI];exact(a5 0 zOm).trans (p0 _)
    .simp only[qI];exact(a5 1 zOm).trans (p1 _)
    .simp only[qI];exact(a5 2 zOm).trans (p2 _)
    .by_cases ad:i=k
     .subst ad
      rw[qB o]at J;cases J;obtain⟨q,rfl,_⟩:=a8 _ a (qt o) hx T;refine⟨q,?_,?_⟩
      .rw [yd zOm,a9];simp
      .rw [yd zOm,aa];simp[ak T q hx]
     .obtain ⟨q,q1,q2⟩:=a1 i x J zOm T
      exact⟨q,by rw[zGa];exact q1,by rw[zGa];exact q2⟩
    grind
  .have ae:k=n.sD.length:=by omega
   subst ae;rw[zU]at I;have I:seqL X n.sD = .ok j:=by rw[I];simp only[seqL,yg]
   obtain⟨S',b,q1,q2,q3⟩:=aj j I;have hL:((n.op=5\/n.op=11\/n.op=12\/n.op=13)\/(n.op=6\/n.op=14\/n.op=7\/n.op=8\/n.op=32\/n.op=33\/n.op=9\/n.op=10))->L=j.map setO:=fun h=>by
    have T:∀ x,x∈n.sD->kd x.op=101:=fun x hx=>qqN hw h x hx
    refine List.ext_getElem? fun i=>?_
    by_cases J:i<n.sD.length
    .obtain ⟨q,e1,e2⟩:=a1 i n.sD[i] (zP1 J) J (T _ (qt J))
     rw[e2,List.getElem?_map,e1];rfl
    .rw [wH zOm,wH zSo]
   have hp:=q1 L hL;unfold prC at hp;have ab:2<U.mu.length:=(qh.1 m2).1;have g:∀(l:List Cell)(i:Nat),i<U.mu.length->(U.mu++l)[i]?=U.mu[i]?:=fun l i J=>qG J
   obtain⟨rr,af⟩:=kW m0 m1 m2;simp[go_sem,e3,e5,e9,h8,m0];refine fW (args':=[eTS c.ts,eNd n,lRS L]) hp ⟨.hf _ (zw _),.hf _ (qE n),rdRS ho,trivial⟩ (fl_sb S' b) ?_;have az:U.mu.length=rr.length+3:=by rw[af];rfl
   clear m0 m1 m2 g ho;simp[go_sem,af,qr];rw[if_pos (zb _)];generalize hP:putCells _ 0 (cRS S')=P;have R:P=cRS S':=by rw[<-hP];exact pc (aI 0) _ (fun _=>false) _
   subst R;clear hP;cases b with
   |true =>
    obtain⟨rfl,rfl⟩:=q2 rfl;simp[go_sem,e6,qr,QE.tk,pc];rw[if_pos (zb _)];simp[go_sem,e6,e7,qr,QE.tk];exact .hf _ (vj S (0,0))
   |false =>
    obtain⟨rfl,rfl⟩:=q3 rfl;simp[go_sem];refine fG [0,1,2,3,4,5] [(0,0,[]),(1,0,[]),(2,0,[]),(3,0,[]),(4,1,[2]),(5,1,[])] zKr zKr zSi ?_;simp[go_sem,e5,e6,e7,qr];exact .hf _ (vj zR (42,n.pos))
theorem qqO(c)(p:okCk c)(s)(hs:ScOk c.ts.sS.length s)(inn n)(t:WfN n)(h1:¬n.op=1)(h47:¬n.op=47)(hb:¬(n.op=15\/n.op=45\/n.op=46))(ht:(inn&&zX c n.op n.name)=false)(ih:∀ k,k∈n.sD->∀ inn,ExR c s inn k):ExR c s inn n:=by
 have hx:exam c s inn n=match qL c s (inn||decide (n.op=12)||decide (n.op=13)) n.sD with | .error e => .error e | .ok l=>zy c.ts.sS.length n.op n.n n.pos l:=by
  rw[yI,ht,if_neg zSp,if_neg h1,if_neg h47,if_neg hb]
  grind
 have C:n.op=12\/n.op=13->(inn||decide (n.op=12)||decide (n.op=13))=true:=fun h=>by grind
 have a0:¬n.op=12->¬n.op=13->(inn||decide (n.op=12)||decide (n.op=13))=inn:=fun h h'=>by simp[h,h']
 generalize (inn||decide (n.op=12)||decide (n.op=13))=B at *
 obtain⟨S,D,I,hq,J,P⟩:∃ S D,dgOf (exam c s inn n)=D/\(kd n.op=101->∀ q,exam c s inn n = .ok (some q)->S=qp q)/\(∀ e,qL c s B n.sD = .error e->S=zR/\D=e) /\
   (∀ l,qL c s B n.sD = .ok l->∃ R b,(∀ L:List RS,((n.op=5\/n.op=11\/n.op=12\/n.op=13)\/(n.op=6\/n.op=14\/n.op=7\/n.op=8\/n.op=32\/n.op=33\/n.op=9\/n.op=10)->L=l.map setO)->prC c.ts n L R b)/\(b=true->S=R/\D=(0,0))/\(b=false->S=zR/\D=(42,n.pos))):=by
  rw[hx];cases hE:qL c s B n.sD with
  |error e=>exact⟨zR,e,rfl,(fun _ q h=>by cases h),(fun e' h=>by grind),(fun l h=>by cases h)⟩
  |ok l =>
   obtain⟨a1,a2⟩:=ZK hE;have a3:=(XV p.ts.ns t a1 (fun i k' a hi ha g=>jA p (szN k') k' s B a (qj _) (t.kid (List.mem_of_getElem? hi)) hs (a2 i k' a hi ha) g)).2;obtain⟨R,b,p1,o⟩:=qqG c.ts p.ts n l h1 (fun h=>hb (.inl h)) (fun h=>by
    grind) a3.2.2
   simp only;cases hA:zy c.ts.sS.length n.op n.n n.pos l with
   |error e =>
    rw[hA]at o;have o:b=false:=o;refine⟨zR,e,rfl,(fun _ q h=>by cases h),(fun e' h=>by cases h),(fun l' h=>by cases h;exact⟨R,b,p1,(fun h=>by grind),(fun _=>⟨rfl,qqI hA⟩)⟩)⟩
   |ok ko =>
    rw[hA]at o;obtain⟨o,p3⟩:=o;refine⟨R,(0,0),rfl,(fun hk q h=>?_),(fun e' h=>by cases h),(fun l' h=>by simp_all)⟩
    grind
 refine⟨S,?_,hq⟩;rw[I];clear I hx hq;obtain⟨X,T⟩:∃ X:Nd->Res,X=exam c s B:=⟨_,rfl⟩;have a4:∀ k,k∈n.sD->∃ S,qg qc 100 [eVw c B,lVr (envS s),eNd k] (.tup [eRS S,eDg (dgOf (X k))])/\(kd k.op=101->∀ q,X k = .ok (some q)->S=qp q):=fun k hk=>by rw[T];exact ih k hk B
 have U:∀ k a,k∈n.sD->X k = .ok a->kd k.op=101->∃ q,a=some q/\okKd c.ts.sS.length q:=fun k a hk h g=>by rw[T]at h;exact jA p (szN k) k s B a (qj _) (t.kid hk) hs h g
 have j:∀ k e,X k = .error e->40<=e.1:=fun k e h=>by rw[T]at h;exact w7 c (szN k) k s B e (qj _) h
 rw[qeI,<-T]at J P;clear T ih;have a5:=t.len;exact ex_t c p s n inn B X S D h1 h47 hb t a5 (fun hi=>by
  simp_all[Bool.true_and,Wn,Bool.or_eq_false_iff]) (fun h=>C (.inl h)) (fun h=>C (.inr h)) a0 a4 U j J P
theorem qeJ(c)(l:okCk c):∀(m:Nat)(n),depN n<=m->WfN n->∀ s,ScOk c.ts.sS.length s->s.length+m<=80000->∀ inn,ExR c s inn n
 | 0,n,i,_,_,_,_,_=>zW1 (qc5 n)
 |m+1,n,i,o,s,t,p,inn=>by
  have C:∀ k,k∈n.sD->∀ s',ScOk c.ts.sS.length s'->s'.length<=s.length+1->∀ inn,ExR c s' inn k:=fun k j s' g I inn=>qeJ c l m k (by have:=qc4 j;rw[Zg]at i;omega) (o.kid j) s' g zOm inn
  cases J:inn&&zX c n.op n.name with
  |true =>
   simp_all[qD,qqJ]
  |false =>
   grind [qqK,qqL,qqM,qqO]
end QS
namespace QT
open YF Y9 Y10 Y1 Y2 Y14 Y15 Y16 YZ P1 P2 PA Q5 QD QE QI QJ QL QM QO QS
section
variable {ts:TS}
def ckR(ts:TS)(i:Nat):Ck:=⟨ts,i,tmsL ts ts.sT.length⟩
theorem Wo(h:okTS ts){i}(g:i<=ts.sT.length):okCk (ckR ts i):=⟨h,g,by show i<=(tmsL ts ts.sT.length).length;rw[ZI ts _ (qj _)];exact g⟩
theorem qeK{c c'}(g:c'.ts=c.ts)(l:∀ nm,zl c' nm=zl c nm)(o:∀ op nm,zX c' op nm=zX c op nm):∀ m n s inn,szN n<=m->exam c s inn n=exam c' s inn n
 | 0,n,_,_,C=>by obtain⟨op,nm,i,ks,p⟩:=n;simp[szN]at C
 |m+1,n,s,inn,C=>by
  have t:∀ k,k∈n.sD->∀(s:Scp)(inn:Bool),exam c s inn k=exam c' s inn k:=fun k t s inn=>qeK g l o m k s inn (zW1 (zf t))
  refine qb5 rfl rfl rfl rfl (o _ _) (fun _=>?_) (by rw[g]) (l _) (by rw[g]) rfl (fun _ J=>qb8 fun k j=>t k j s true) (fun _ inn=>?_) (fun _ _ _ inn=>UV fun k j=>t k j s inn)
  .grind [ZQ]
  .cases I:n.sD with
   |nil=>rfl
   |cons k ks =>
    grind [ks,z7,qZ,qL,UV,qN]
theorem qqP(h:okTS ts){i}(l:i<=ts.sT.length)(n s inn):exam (ckR ts i) s inn n=exam (mkCk ts i) s inn n:=by
 refine(qeK (c:=mkCk ts i) (c':=ckR ts i) rfl (fun nm=>rfl) (fun op nm=>?_) (szN n) n s inn (qj _)).symm;unfold zX;have e:zl (ckR ts i) nm=zl (mkCk ts i) nm:=rfl;rw[e];cases o:zl (mkCk ts i) nm with
 |none=>rfl
 |some p =>
  obtain⟨j,g⟩:=Qz (vu h l) o;have j:p<i:=j;have g:p<ts.sT.length:=g;simp only;have t:=PC.U7 ts p ts.sT.length g (qj _) g;have C:=PC.U7 ts p i j l g;show (yw op||(decide (op=47)&&(tmsL ts ts.sT.length).getD p false))=(yw op||(decide (op=47)&&(tmsL ts i).getD p false));rw[t,C]
theorem qqQ(h:okTS ts){i}(g:i<=ts.sT.length)(env n):jp (mkCk ts i) env n=if 30<=n.op then dgOf (exam (ckR ts i) (zz env) false n) else (43,n.pos):=by
 grind [jp,qqP]
theorem qeL(ts)(h:okTS ts)(J:∀ p,p∈ts.sT->WfN p.body)(i)(o:i<=ts.sT.length)(env)(t:Zb ts.sS.length env)(j:env.length<=1000)(n)(R:WfN n)(T:depN n<=24) :
  qg qc 131 [eTS ts,aI i,lPm env,eNd n] (eDg (jp (mkCk ts i) env n)):=by
 rw[qqQ h o];have U:=h.ns;have hs:=J2 t;have a0:(zz env).length=env.length:=by
  have:=congrArg List.length (qeB env)
  grind [Wm,envV]
 obtain⟨S,ce,_⟩:=qeJ (ckR ts i) (Wo h o) 24 n T R (zz env) hs zOm false;have C:=envU env j (fun p hp=>zW1 (t.r p hp));rw[qeB]at C;have c1:=qp5 n;have c2:=qp2 ts h J;refine qSU call131 func131 rfl ?_;refine tU c1 (.zk (qE n) .nil) ?_;by_cases g:30<=n.op
 .rw [if_pos g]
  generalize dgOf (exam (ckR ts i) (zz env) false n)=D at *
  simp[go_sem,g];refine fG [0,1,3,5,7,2,4,6,8,9,10,11,12,13,14,15] [(0,0,[]),(1,0,[]),(3,0,[]),(5,0,[]),(7,0,[]),(2,1,[0,7]),(4,0,[]),(6,1,[0,7]),(8,1,[]),(9,0,[]),(10,0,[]),(11,0,[]),(12,2,[0,1,7]),(13,2,[0,1,7]),(14,1,[]),(15,1,[])] zKr zKr zSi ?_;simp[go_sem];refine fR c2 (.zk (zw ts) .nil) ?_;refine fR C (.zk (wc env) .nil) ?_;refine tU ce (wkE (ckR ts i) false _ n) ?_;simp[go_sem,qr];rw[if_pos (zb _)];generalize I:putCells _ 0 (cRS S)=P;have l:P=cRS S:=by rw[<-I];exact pc (aI 0) _ (fun _=>false) _
  subst l;clear I;simp[go_sem];exact .hf _ (wC D)
 .rw [if_neg g]
  simp[go_sem,g];exact .hf _ (wC (43,n.pos))
theorem qeM(ts)(h:okTS ts)(i:∀ p,p∈ts.sT->WfN p.body)(env)(j:Zb ts.sS.length env)(g:env.length<=1000)(n)(l:WfN n)(o:depN n<=24) :
  qg qc 64 [eTS ts,lPm env,eNd n] (eDg (zQ ts env n)):=by
 have c1:=qeL ts h i ts.sT.length (qj _) env j g n l o;have e:jp (mkCk ts ts.sT.length) env n=zQ ts env n:=rfl;rw[e]at c1;generalize zQ ts env n=D at *
 refine qSU call64 func64 rfl ?_;refine fR c1 (.zk (zw ts) (.zs (.zk (wc env) (.zk (qE n) .nil)))) ?_;exact .hf _ (wC D)
theorem Jc(a b):dups (a++b)=dups a++dups b:=by simp[dups]
theorem wD(b):dups [b]=if b=true then [(41,0)] else []:=by cases b<;>rfl
theorem w6(l):(dups l).length<=l.length:=by
 grind [dups,yu,List.length_filter_le]
theorem kX{J}(g)(l:List J)(k h):(repL g l).take (k+1)=(repL g l).take k++[(l.take k).any fun y=>g l[k] y]:=by
 grind [repL,wY,uL,qaF,qB,Option.some.inj]
theorem Wp{J:Type}(p)(l:List J)(k h):(l.take (k+1)).any p=((l.take k).any p||p l[k]):=by
 rw[uL h,List.any_append];simp only[List.any_cons,List.any_nil,Bool.or_false]
abbrev eS:tZ×Bool->tZ×Bool->Bool:=fun x y=>decide (x.1=y.1)
abbrev eF:Fld->Fld->Bool:=fun x y=>decide (x.name=y.name)&&decide (x.sS=y.sS)
abbrev eP:Pd->Pd->Bool:=fun x y=>decide (x.name=y.name)
abbrev eM:tZ×Int->tZ×Int->Bool:=fun x y=>decide (x.1=y.1)
abbrev eA:tZ×Nd->tZ×Nd->Bool:=fun x y=>decide (x.1=y.1)
theorem Qg{mu lo s x}{xs ys:List Dg}{K}(j:OwnF lo mu 2 s (xs.map cDg))(o:qA mu x=some (ys.map cDg))(t:xs.length+ys.length<=100000)(C:∀ av mu',OwnF lo mu' 2 av ((xs++ys).map cDg)->(∀ i,i<lo->mu'[i]?=mu[i]?)->K av mu') :
  qw qc mu #[77,77] s x K:=by
 have g:∀ l:List Dg,qW 2 (l.map cDg):=fun l r p=>by
  obtain⟨n,_,rfl⟩:=qn.1 p;exact⟨rfl,rfl⟩
 refine qw.ownF (lo:=lo) (e:=121) (sz:=2) (bt:=16) (zv := .agg [aI 0,aI 0]) (xs:=xs.map cDg) (ys:=ys.map cDg) zSi zSi zSi rfl rfl zOm zOm j o (g xs) (g ys) zSo ?_
 grind
theorem qqR(ts)(h:okTS ts)(mu):qv qc 62 [eTS ts] mu fun e m=>∃ av,e = .ret av/\OwnF mu.length m 2 av ((dups (repL eS ts.sS)++dups (repL eF ts.sA)).map cDg)/\∀ i,i<mu.length->m[i]?=mu[i]?:=by
 refine qSW call62 func62 rfl {} ?_;have a6:=h.ns;have ab:=h.nf;simp[go_sem];refine aA ts.sS.length (fun i U=>U.tm 1 = .ip (cTS ts)/\U.tm 4=aI i/\OwnF mu.length U.mu 2 (U.tm 3) ((dups ((repL eS ts.sS).take i)).map cDg)/\∀ i,i<mu.length->U.mu[i]?=mu[i]?) ?_ ?_
 .simp_all [go_sem,dups,OwnF.nil,qj]
 rintro i U R ⟨e1,e4,J,hm⟩;have a0:(dups ((repL eS ts.sS).take i)).length<=i:=zS (w6 _) (List.length_take_le ..);generalize h3:U.tm 3=av at *
 by_cases o:i<ts.sS.length
 .have p:=kX eS ts.sS i o
  have wi:=zWk i;simp[go_sem,e1,e4,o];refine aA i (fun k st2=>st2.tm 1 = .ip (cTS ts)/\st2.tm 4=aI i/\st2.tm 3=av/\st2.tm 6=aI k/\st2.tm 5=aB ((ts.sS.take k).any fun y=>eS ts.sS[i] y)/\st2.mu=U.mu) ?_ ?_
  .simp [go_sem, *]
  rintro k st2 hk ⟨f1,f4,f3,f6,f5,I⟩;generalize hT:(ts.sS.take k).any (fun y=>eS ts.sS[i] y)=T at *
  by_cases t:k<i
  .have C:k<ts.sS.length:=by omega
   have wk:=zWk k;have g:=Wp (fun y=>eS ts.sS[i] y) ts.sS k C;rw[hT]at g;simp[go_sem,f4,f6,t];refine tR zKr ?_;cases T with
   |true =>
    simp_all[go_sem,Bool.true_or,aC]
   |false =>
    rw[Bool.false_or]at g;by_cases hq:ts.sS[k].1=ts.sS[i].1
    .simp_all [go_sem,eS,decide_eq_true,aC]
    .have j:(ts.sS.take (k+1)).any (fun y=>eS ts.sS[i] y)=false:=by rw[g];exact decide_eq_false fun e=>hq e.symm
     simp_all[go_sem,jG,aC]
  .have a1:k=i:=by omega
   subst a1;rw[hT]at p;cases T with
   |true =>
    simp[go_sem,f4,f3,f6,f5,I];refine Qg (ys:=[(41,0)]) J (by simp[qA]) zSo fun a7 m' a2 a3=>?_
    simp[go_sem,f4,wi];exact⟨o,aC ⟨zS1 f1,zSi,by rw[p,Jc,wD,if_pos rfl];simpa[go_sem] using a2,by simp only[qI];exact fun i R=>(a3 i R).trans (hm i R)⟩⟩
   |false =>
    simp[go_sem,f4,f6,f5,I,wi];exact⟨o,aC ⟨zS1 f1,zSi,by rw[p,Jc,wD,if_neg zSp,yg];simpa[go_sem,f3,I] using J,by simp only[qI];exact hm⟩⟩
 .have a4:i=ts.sS.length:=by omega
  subst a4;rw[zY (by rw[wY];exact qj _)]at J;simp[go_sem,e1,e4];generalize a8:dups (repL eS ts.sS)=a5 at *
  have ad:a5.length<=4:=by rw[<-a8];exact zS (w6 _) (by rw[wY];exact a6)
  refine aA ts.sA.length (fun i U=>U.tm 1 = .ip (cTS ts)/\U.tm 7=aI i/\OwnF mu.length U.mu 2 (U.tm 3) ((a5++dups ((repL eF ts.sA).take i)).map cDg)/\∀ i,i<mu.length->U.mu[i]?=mu[i]?) ?_ ?_
  .exact ⟨zS1 e1,zSi,by simpa[go_sem,dups,h3] using J,zVs hm⟩
  clear a0 J hm e1 e4 h3 o R U;rintro i U R ⟨e1,e4,J,hm⟩;have a0:(dups ((repL eF ts.sA).take i)).length<=i:=zS (w6 _) (List.length_take_le ..);generalize h3:U.tm 3=a9 at *
  by_cases o:i<ts.sA.length
  .have p:=kX eF ts.sA i o
   have wi:=zWk i;simp[go_sem,e1,e4,o];refine aA i (fun k st2=>st2.tm 1 = .ip (cTS ts)/\st2.tm 7=aI i/\st2.tm 3=a9/\st2.tm 9=aI k/\st2.tm 8=aB ((ts.sA.take k).any fun y=>eF ts.sA[i] y)/\st2.mu=U.mu) ?_ ?_
   .exact ⟨zS1 e1,zS1 e4,zS1 h3,zSi,zSi,zSi⟩
   rintro k st2 hk ⟨f1,f4,f3,f6,f5,I⟩;generalize hT:(ts.sA.take k).any (fun y=>eF ts.sA[i] y)=T at *
   by_cases t:k<i
   .have C:k<ts.sA.length:=by omega
    have wk:=zWk k;have g:=Wp (fun y=>eF ts.sA[i] y) ts.sA k C;rw[hT]at g;have ae:=h.fl _ (qt C);have aa:=qlV ts.sA[k].sS ts.sA[i].sS zOm;simp[go_sem,f4,f6,t];refine tR zKr ?_;cases T with
    |true =>
     rw[Bool.true_or]at g;simp[go_sem,f6,f5,t,wk];exact aC ⟨zS1 f1,zS1 f4,zS1 f3,zSi,by rw[g];simp[go_sem],zS1 I⟩
    |false =>
     rw[Bool.false_or]at g;by_cases hq:ts.sA[k].name=ts.sA[i].name
     .simp [go_sem,f1,f4,f6,f5,C,o,hq]
      refine tU aa (.zk (zC _) (.zk (zC _) .nil)) ?_;by_cases P:ts.sA[k].sS=ts.sA[i].sS
      .have j:(ts.sA.take (k+1)).any (fun y=>eF ts.sA[i] y)=true:=by rw[g];simp[eF,hq.symm,P.symm]
       simp[go_sem,f6,t,wk,P];exact aC ⟨zS1 f1,zS1 f4,zS1 f3,zSi,by rw[j];simp[go_sem],zS1 I⟩
      .have j:(ts.sA.take (k+1)).any (fun y=>eF ts.sA[i] y)=false:=by rw[g];simp[eF,hq.symm];exact fun e=>P e.symm
       simp[go_sem,f6,t,wk,P];exact aC ⟨zS1 f1,zS1 f4,zS1 f3,zSi,by rw[j];simp[go_sem],zS1 I⟩
     .have j:(ts.sA.take (k+1)).any (fun y=>eF ts.sA[i] y)=false:=by rw[g];simp[eF];exact fun e=>absurd e.symm hq
      simp[go_sem,f1,f4,f6,f5,t,C,o,wk,jG hq];exact aC ⟨zS1 f1,zS1 f4,zS1 f3,zSi,by rw[j];simp[go_sem],zS1 I⟩
   .have a1:k=i:=by omega
    subst a1;rw[hT]at p;cases T with
    |true =>
     simp[go_sem,f4,f3,f6,f5,I];refine Qg (ys:=[(41,0)]) J (by simp[qA]) zSo fun a7 m' a2 a3=>?_
     simp[go_sem,f4,wi];exact⟨o,aC ⟨zS1 f1,zSi,by rw[p,Jc,wD,if_pos rfl,<-zG];simpa[go_sem] using a2,by simp only[qI];exact fun i R=>(a3 i R).trans (hm i R)⟩⟩
    |false =>
     simp[go_sem,f4,f6,f5,I,wi];exact⟨o,aC ⟨zS1 f1,zSi,by rw[p,Jc,wD,if_neg zSp,yg];simpa[go_sem,f3,I] using J,by simp only[qI];exact hm⟩⟩
  .have a4:i=ts.sA.length:=by omega
   subst a4;rw[zY (by rw[wY];exact qj _)]at J;simp[go_sem,e1,e4,h3];exact⟨zUs J,hm⟩
end
end QT
namespace QU
open YF Y9 Y10 Y1 Y2 Y15 Y16 YZ P1 P2 PA QD QI QK QT
theorem qqS{ts i}(l):(∃ p,zl (ckR ts i) ts.sT[i].name=some p/\(ts.sT.take i).any (fun y=>eP ts.sT[i] y)=true)\/(zl (ckR ts i) ts.sT[i].name=none/\(ts.sT.take i).any (fun y=>eP ts.sT[i] y)=false):=by
 cases h:zl (ckR ts i) ts.sT[i].name with
 |some p =>
  left;refine⟨p,rfl,?_⟩;unfold zl at h;rw[List.findIdx?_eq_some_iff_getElem]at h;obtain⟨g,o,_⟩:=h;refine List.any_eq_true.2 ⟨_,qt g,?_⟩
  grind
 |none =>
  right;refine⟨rfl,?_⟩;unfold zl at h;rw[List.findIdx?_eq_none_iff]at h;rw[List.any_eq_false];intro x j;have:=h x j
  grind
theorem rdDg{lo mu av xs}(h:OwnF lo mu 2 av (xs.map cDg)):Rd mu av (lDg xs):=by
 refine h.1.rd (qW.ok fun r g=>?_) fun r g c i=>?_
 .obtain ⟨n,_,rfl⟩:=qn.1 g
  exact⟨rfl,rfl⟩
 .obtain ⟨n,_,rfl⟩:=qn.1 g
  rcases qy.1 i with rfl|i
  .exact HF.sc _
  grind [qS,HF.sc]
theorem Jd{lo sz mu av xs}(h:OwnF lo mu sz av xs)(c):OwnF lo (mu++[c]) sz av xs:=⟨JQ h.1 c,h.2.1,by have:=h.2.2;simp;omega⟩
theorem qqT(ts)(h:okTS ts)(wp:∀ p,p∈ts.sT->WfN p.body)(i)(R:i<ts.sT.length)(hd:depN ts.sT[i].body<=24):qg qc 63 [eTS ts,aI i] (lDg (vR ts i)):=by
 have a6:=h.pl _ (qt R);have ag:=h.np;have c1:=qeL ts h wp i zOm ts.sT[i].params ⟨zOm,a6.2⟩ zOm ts.sT[i].body (wp _ (qt R)) hd;have c2:=Vq (ckR ts i) (Wo h zOm) ts.sT[i].name;have a7:=qqS R;have hp:vR ts i=dups [(ts.sT.take i).any (fun y=>eP ts.sT[i] y)]++(dups (repL eM ts.sT[i].params)++rp (jp (mkCk ts i) ts.sT[i].params ts.sT[i].body)):=by
  grind [vR,qB,qcA]
 rw[hp];generalize hD:jp (mkCk ts i) ts.sT[i].params ts.sT[i].body=D at *
 generalize hb:(ts.sT.take i).any (fun y=>eP ts.sT[i] y)=b at *
 have ah:(dups [b]).length<=1:=by grind [dups]
 refine qSU call63 func63 rfl ?_;refine tR zKr ?_;simp[go_sem,R];refine tU c2 (.zk (zw _) (.zs (.zs .nil))) ?_;have wk:WKs [eTS ts,aI i,lPm ts.sT[i].params,eNd ts.sT[i].body] [eTS ts,aI i,lPm ts.sT[i].params,eNd ts.sT[i].body] := .zk (zw _) (.zs (.zk (wc _) (.zk (qE _) .nil)));have af:=Qy;have fin:∀ U:St,True:=fun _=>trivial
 rcases a7 with ⟨p,hc,a0⟩|⟨hc,a0⟩
 case' inl =>
  subst a0;rw[hc];have a8:(0:Int)<=(p:Int):=zOm;simp[go_sem,idxO,a8];refine Qg (lo:=0) (xs:=[]) (ys:=[(41,0)]) (OwnF.nil zSp) (by simp[qA]) zSp fun ai m0 aj _=>?_
  simp[go_sem,R]
 case' inr =>
  subst a0;rw[hc];simp[go_sem,idxO,R]
 all_goals
  generalize a9:ts.sT[i]=g at *
 case' inl =>
  refine aA g.params.length (fun k U=>U.tm 2 = .ip (cTS ts)/\U.tm 1=aI i/\U.tm 6=lPm g.params/\U.tm 7=aI k/\OwnF 0 U.mu 2 (U.tm 5) ((dups [true]++dups ((repL eM g.params).take k)).map cDg)) ?_ ?_
  .simp_all [go_sem,dups]
 case' inr =>
  refine aA g.params.length (fun k U=>U.tm 2 = .ip (cTS ts)/\U.tm 1=aI i/\U.tm 6=lPm g.params/\U.tm 7=aI k/\OwnF 0 U.mu 2 (U.tm 5) ((dups [false]++dups ((repL eM g.params).take k)).map cDg)) ?_ ?_
  .simp_all [go_sem,dups,OwnF.nil]
 all_goals
  rintro k U hk ⟨e2,e1,e6,e7,ho⟩;have a5:(dups ((repL eM g.params).take k)).length<=k:=zS (Y16.w6 _) (List.length_take_le ..);generalize h5:U.tm 5=t at *
  by_cases I:k<g.params.length
  .have a1:=kX eM g.params k I
   have wi:=zWk k;simp[go_sem,e6,e7,I];refine aA k (fun j st2=>st2.tm 2 = .ip (cTS ts)/\st2.tm 1=aI i/\st2.tm 6=lPm g.params/\st2.tm 7=aI k/\st2.tm 5=t/\st2.tm 9=aI j/\st2.tm 8=aB ((g.params.take j).any fun y=>eM g.params[k] y)/\st2.mu=U.mu) ?_ ?_
   .simp [go_sem, *]
   rintro j st2 hj ⟨f2,f1,f6,f7,f5,f9,f8,fm⟩;generalize hT:(g.params.take j).any (fun y=>eM g.params[k] y)=T at *
   by_cases a2:j<k
   .have a3:j<g.params.length:=by omega
    have wj:=zWk j;have C:=Wp (fun y=>eM g.params[k] y) g.params j a3;rw[hT]at C;simp[go_sem,f7,f9,a2];refine tR zKr ?_;cases T with
    |true =>
     simp_all[go_sem,Bool.true_or,aC]
    |false =>
     rw[Bool.false_or]at C;by_cases hq:g.params[j].1=g.params[k].1
     .have o:(g.params.take (j+1)).any (fun y=>eM g.params[k] y)=true:=by rw[C];exact decide_eq_true hq.symm
      simp[go_sem,f6,f7,f9,f8,a2,a3,I,wj,hq];exact aC ⟨zS1 f2,zS1 f1,zS1 f6,zS1 f7,zS1 f5,zSi,by rw[o];simp[go_sem],zS1 fm⟩
     .have o:(g.params.take (j+1)).any (fun y=>eM g.params[k] y)=false:=by rw[C];exact decide_eq_false fun e=>hq e.symm
      simp[go_sem,f6,f7,f9,f8,a2,a3,I,wj,jG hq];exact aC ⟨zS1 f2,zS1 f1,zS1 f6,zS1 f7,zS1 f5,zSi,by rw[o];simp[go_sem],zS1 fm⟩
   .have aa:j=k:=by omega
    subst aa;rw[hT]at a1;cases T with
    |true =>
     simp[go_sem,f7,f5,f9,f8,fm];refine Qg (ys:=[(41,0)]) ho (by simp[qA]) zSo fun ab m' J ad=>?_
     simp[go_sem,f7,wi];exact⟨I,aC ⟨zS1 f2,zS1 f1,zS1 f6,zSi,by rw[a1,Jc,<-zG];simpa[go_sem,wD] using J⟩⟩
    |false =>
     simp[go_sem,f7,f9,f8,fm,wi];exact⟨I,aC ⟨zS1 f2,zS1 f1,zS1 f6,zSi,by rw[a1,Jc];simpa[go_sem,wD,f5,fm] using ho⟩⟩
  .have ae:k=g.params.length:=by omega
   subst ae;rw[zY (by rw[wY];exact qj _)]at ho a5;simp[go_sem,e6,e7];refine tR zKr ?_;simp[go_sem,e2,e1,e6,R,a9];refine tU c1 wk ?_;by_cases P:D.1=0
   .have a4:rp D=[]:=if_pos P
    rw[a4];simp[go_sem,h5,P];exact rdDg (Jd ho _)
   .have a4:rp D=[D]:=if_neg P
    rw[a4];simp[go_sem,h5,P];refine Qg (ys:=[D]) (Jd ho _) (by simp[qA]) (by simp only[zh,List.length_singleton];omega) fun ab m' J ad=>?_
    simp[go_sem];rw[zG]at J;exact rdDg J
theorem JY(f:Nat->List Dg)(n):(qs (n+1)).flatMap f=(qs n).flatMap f++f n:=by
 rw[List.range_succ,List.flatMap_append];simp only[uM,List.flatMap_nil,yg]
theorem qqU(ts)(h:okTS ts)(wp:∀ p,p∈ts.sT->WfN p.body)(wf:∀ f,f∈ts.sP->WfN f.2)(dp:∀ p,p∈ts.sT->depN p.body<=24)(df:∀ f,f∈ts.sP->depN f.2<=24):qg qc 30 [eTS ts] (lDg (yY ts)):=by
 have ak:=h.np;have al:=h.nfa;have hD:(dups (repL eS ts.sS)++dups (repL eF ts.sA)).length<=10:=by
  have a1:=Y16.w6 (repL eS ts.sS);have a2:=Y16.w6 (repL eF ts.sA);rw[wY]at a1 a2;have:=h.ns;have:=h.nf;rw[zh];omega
 have hC:yY ts=(dups (repL eS ts.sS)++dups (repL eF ts.sA))++((qs ts.sT.length).flatMap (vR ts)++(qs ts.sP.length).flatMap (wZ ts ts.sP)):=by
  unfold yY;rw[zG]
 rw[hC];have a9:=qqR ts h [];generalize dups (repL eS ts.sS)++dups (repL eF ts.sA)=D0 at *
 refine qSU call30 func30 rfl ?_;refine fZ a9 (fun r m hr=>?_) (fun r m hr=>?_)
 case refine_2 =>
  grind
 obtain⟨an,e,ao,_⟩:=hr;cases e;simp[go_sem];refine aA ts.sT.length (fun i U=>U.tm 1 = .ip (cTS ts)/\U.tm 4=aI i/\OwnF 0 U.mu 2 (U.tm 3) ((D0++(qs i).flatMap (vR ts)).map cDg)) ?_ ?_
 .simp_all [go_sem]
 rintro i U hi ⟨e1,e4,R⟩;have aj:=Y16.X5 (vR ts) (Y16.qaI h) i;generalize h3:U.tm 3=t at *
 by_cases g:i<ts.sT.length
 .have j:=JY (vR ts) i
  have aq:=Y16.qaI h i;have aa:=qqT ts h wp i g (dp _ (qt g));have wi:=zWk i;generalize vR ts i=PD at *
  simp[go_sem,e1,e4,h3,g];refine fR aa (.zk (zw ts) (.zs .nil)) ?_;refine Qg (ys:=PD) R (by simp[qA]) (by simp only[zh];omega) fun ab m' a3 ad=>?_
  simp_all[go_sem,aC,zG]
 .have a4:i=ts.sT.length:=by omega
  subst a4;simp[go_sem,e1,e4];generalize (qs ts.sT.length).flatMap (vR ts)=P0 at *
  refine aA ts.sP.length (fun i U=>U.tm 1 = .ip (cTS ts)/\U.tm 5=aI i/\OwnF 0 U.mu 2 (U.tm 3) (((D0++P0)++(qs i).flatMap (wZ ts ts.sP)).map cDg)) ?_ ?_
  .exact ⟨zS1 e1,zSi,by simpa[go_sem,h3] using R⟩
  clear R e1 e4 h3 g hi U;rintro i U hi ⟨e1,e4,R⟩;have ae:=Y16.X5 (wZ ts ts.sP) (Y16.qlD ts ts.sP) i;generalize h3:U.tm 3=af at *
  by_cases g:i<ts.sP.length
  .have j:=JY (wZ ts ts.sP) i
   have ag:wZ ts ts.sP i=dups [(ts.sP.take i).any (fun y=>eA ts.sP[i] y)]++rp (zQ ts [] ts.sP[i].2):=by
    unfold wZ;rw[qB g];simp only;rw[qcA,qB g]
   rw[ag]at j;have cf:=qeM ts h wp [] ⟨zSp,zSp⟩ zSp ts.sP[i].2 (wf _ (qt g)) (df _ (qt g));have wi:=zWk i;generalize zQ ts [] ts.sP[i].2=D at *
   simp[go_sem,e1,e4,g];refine aA i (fun k st2=>st2.tm 1 = .ip (cTS ts)/\st2.tm 5=aI i/\st2.tm 3=af/\st2.tm 7=aI k/\st2.tm 6=aB ((ts.sP.take k).any fun y=>eA ts.sP[i] y)/\st2.mu=U.mu) ?_ ?_
   .exact ⟨zS1 e1,zS1 e4,zS1 h3,zSi,zSi,zSi⟩
   rintro k st2 hk ⟨f1,f4,f3,f6,f5,fm⟩;generalize hT:(ts.sP.take k).any (fun y=>eA ts.sP[i] y)=T at *
   by_cases a0:k<i
   .have a5:k<ts.sP.length:=by omega
    have wk:=zWk k;have o:=Wp (fun y=>eA ts.sP[i] y) ts.sP k a5;rw[hT]at o;simp[go_sem,f4,f6,a0];refine tR zKr ?_;cases T with
    |true =>
     rw[Bool.true_or]at o;simp[go_sem,f6,f5,a0,wk];exact aC ⟨zS1 f1,zS1 f4,zS1 f3,zSi,by rw[o];simp[go_sem],zS1 fm⟩
    |false =>
     rw[Bool.false_or]at o;by_cases hq:ts.sP[k].1=ts.sP[i].1
     .have I:(ts.sP.take (k+1)).any (fun y=>eA ts.sP[i] y)=true:=by rw[o];exact decide_eq_true hq.symm
      simp[go_sem,f1,f4,f6,f5,a0,a5,g,wk,hq];exact aC ⟨zS1 f1,zS1 f4,zS1 f3,zSi,by rw[I];simp[go_sem],zS1 fm⟩
     .have I:(ts.sP.take (k+1)).any (fun y=>eA ts.sP[i] y)=false:=by rw[o];exact decide_eq_false fun e=>hq e.symm
      simp[go_sem,f1,f4,f6,f5,a0,a5,g,wk,jG hq];exact aC ⟨zS1 f1,zS1 f4,zS1 f3,zSi,by rw[I];simp[go_sem],zS1 fm⟩
   .have ah:k=i:=by omega
    subst ah;rw[hT]at j;have a6:WKs [eTS ts,.lst true [],eNd ts.sP[k].2] [eTS ts,lPm [],eNd ts.sP[k].2] := .zk (zw ts) (.cons (WK.lst fun r hr=>absurd hr qK) (.zk (qE _) .nil));have ar:=nX;cases T with
    |true =>
     simp[go_sem,f4,f3,f6,f5,fm];refine Qg (ys:=[(41,0)]) R (by simp[qA]) (by simp only[zh,List.length_singleton];omega) fun ab m' a3 ad=>?_
     simp[go_sem];refine tR zKr ?_;simp[go_sem,f1,f4,g];refine tU cf a6 ?_;by_cases C:D.1=0
     .have J:rp D=[]:=if_pos C
      rw[J,yg]at j;simp[go_sem,f4,wi,C];exact⟨g,aC ⟨zS1 f1,zSi,by rw[j,<-zG];simpa[go_sem,wD] using Jd a3 (.arr [aI 0,aI D.2])⟩⟩
     .have J:rp D=[D]:=if_neg C
      rw[J]at j;simp[go_sem,C];refine Qg (ys:=[D]) (Jd a3 _) (by simp[qA]) (by simp only[zh,List.length_singleton];omega) fun a7 ai P a8=>?_
      simp[go_sem,f4,wi];exact⟨g,aC ⟨zS1 f1,zSi,by rw[j,<-zG];simpa[go_sem,wD,zG] using P⟩⟩
    |false =>
     simp[go_sem,f4,f6,f5,fm];refine tR zKr ?_;simp[go_sem,f1,f4,g];refine tU cf a6 ?_;by_cases C:D.1=0
     .have J:rp D=[]:=if_pos C
      rw[J,yg]at j;simp[go_sem,f4,wi,C];exact⟨g,aC ⟨zS1 f1,zSi,by rw[j,<-zG];simpa[go_sem,wD,f3] using Jd R (.arr [aI 0,aI D.2])⟩⟩
     .have J:rp D=[D]:=if_neg C
      rw[J]at j;simp[go_sem,f3,C];refine Qg (ys:=[D]) (Jd R _) (by simp[qA]) (by simp only[zh,List.length_singleton];omega) fun a7 ai P a8=>?_
      simp[go_sem,f4,wi];exact⟨g,aC ⟨zS1 f1,zSi,by rw[j,<-zG];simpa[go_sem,wD,zG] using P⟩⟩
  .have a4:i=ts.sP.length:=by omega
   subst a4;simp[go_sem,e1,e4,h3];rw[zG]at R;exact rdDg R
end QU
namespace QP
end QP
namespace QV
end QV
namespace QW
open YS YF Y9 Y10 Y1 Y2 YZ YA P1 P2
section
variable {l:List tZ}
abbrev rNm(b:tZ):List AV:=[aS b]
abbrev lNm(l:List tZ):AV := .lst false (l.map rNm)
def namL(n:Nd):List tZ:=((preN n).filter fun x=>decide (x.name≠⟨#[]⟩)).map Nd.name
def vo(l:List Nd):List tZ:=((zo l).filter fun x=>decide (x.name≠⟨#[]⟩)).map Nd.name
theorem qqV(n):namL n=(if n.name=⟨#[]⟩ then [] else [n.name])++vo n.sD:=by
 unfold namL vo;rw[wv,List.filter_cons];by_cases h:n.name=⟨#[]⟩
 .simp [h]
 .simp [h]
theorem YK:∀ a b,zo (a++b)=zo a++zo b
 | [],b=>rfl
 |x :: a,b=>by rw[List.cons_append];simp only[zo];rw[YK a b,zG]
theorem qqW(a k):vo (a++[k])=vo a++namL k:=by
 grind [vo,namL,YK,zo]
theorem qqX(l):(vo l).length<=(zo l).length:=by
 grind [vo,yu,List.length_filter_le]
theorem Wq(n):(namL n).length<=(preN n).length:=by
 grind [namL,yu,List.length_filter_le]
theorem kY(l:List tZ):qW 1 (l.map rNm):=fun r g=>by
 obtain⟨x,_,rfl⟩:=qn.1 g;exact⟨rfl,rfl⟩
theorem qeN(l):HF (lNm l):=HF.lst fun r g c i=>by
 obtain⟨x,_,rfl⟩:=qn.1 g
 grind [qS,HF.sc]
theorem rdNm{lo mu av}(h:OwnF lo mu 1 av (l.map rNm)):Rd mu av (lNm l):=
 h.1.rd (kY l).ok fun r g c i=>by
  obtain⟨x,_,rfl⟩:=qn.1 g
  grind [qS,HF.sc]
theorem appNm{mu lo s x}{xs ys:List tZ}{K}(g:OwnF lo mu 1 s (xs.map rNm))(j:qA mu x=some (ys.map rNm))(l:xs.length+ys.length<=1000000)(o:∀ av mu',OwnF lo mu' 1 av ((xs++ys).map rNm)->(∀ i,i<lo->mu'[i]?=mu[i]?)->K av mu') :
  qw qc mu #[197,197] s x K:=by
 refine qw.ownF (lo:=lo) (e:=9) (sz:=1) (bt:=16) (zv:=aS ⟨#[]⟩) (xs:=xs.map rNm) (ys:=ys.map rNm) zSi zSi zSi rfl rfl zOm zOm g j (kY xs) (kY ys) zSo ?_
 grind
theorem qqY(l k):(zo (l.take k)).length<=(zo l).length:=by
 grind [zo,YK,List.take_append_drop,zh]
theorem kZ:∀ m n,szN n<=m->Small n->∀ lo mu av xs,OwnF lo mu 1 av (xs.map rNm)->xs.length+(preN n).length<=500000 ->
  qv qc 202 [av,eNd n] mu fun e C=>∃ g,e = .ret g/\OwnF lo C 1 g ((xs++namL n).map rNm)/\∀ i,i<lo->C[i]?=mu[i]?
 | 0,n,J,_=>by obtain⟨op,nm,i,ks,p⟩:=n;simp[szN]at J
 |m+1,n,J,hs=>by
  intro lo mu av xs I hl;have ih:∀ k,k∈n.sD->∀(lo:Nat)(mu:Mu)(av:AV)(xs:List tZ),OwnF lo mu 1 av (xs.map rNm)->xs.length+(preN k).length<=500000->qv qc 202 [av,eNd k] mu fun e C=>∃ g,e = .ret g/\OwnF lo C 1 g ((xs++namL k).map rNm)/\∀ i,i<lo->C[i]?=mu[i]?:=fun k R =>
   kZ m k (zW1 (zf R)) (hs.kid R)
  have a3:=hs.len;have o:=qqV n;have a4:(preN n).length=1+(zo n.sD).length:=by rw[wv,yh];omega
  refine qSW call202 func202 rfl {} ?_;by_cases P:n.name=⟨#[]⟩
  case' pos =>
   rw[if_pos P,jk]at o;simp[go_sem,P];refine aA n.sD.length (fun k U=>U.tm 3 = .ip (cNd n)/\U.tm 5=aI k/\OwnF lo U.mu 1 (U.tm 0) ((xs++vo (n.sD.take k)).map rNm)/\∀ i,i<lo->U.mu[i]?=mu[i]?) ?_ ?_
   .simp_all [go_sem,vo,zo]
   generalize hX:xs=X at *
   have T:X.length+(zo n.sD).length<=500000:=zOm;have j:X++vo n.sD=X++namL n:=by rw[o]
  case' neg =>
   rw[if_neg P]at o;have a0:n.name.toList.isEmpty=false:=by simpa using jG P
   simp[go_sem,a0];refine appNm (ys:=[n.name]) I (by simp[qA]) (by grind) fun g C a5 a6=>?_
   simp[go_sem];refine aA n.sD.length (fun k U=>U.tm 3 = .ip (cNd n)/\U.tm 5=aI k/\OwnF lo U.mu 1 (U.tm 0) (((xs++[n.name])++vo (n.sD.take k)).map rNm)/\∀ i,i<lo->U.mu[i]?=mu[i]?) ?_ ?_
   .simp_all [go_sem,vo,zo]
   generalize hX:xs++[n.name]=X at *
   have T:X.length+(zo n.sD).length<=500000:=by grind
   have j:X++vo n.sD=xs++namL n:=by grind
  all_goals
   rintro k U R ⟨e3,e5,I,J⟩;generalize h0:U.tm 0=a1 at *
   by_cases t:k<n.sD.length
   .have w1:=zWk k
    have a7:vo (n.sD.take (k+1))=vo (n.sD.take k)++namL n.sD[k]:=by rw[uL t,qqW]
    have a8:(zo (n.sD.take (k+1))).length=(zo (n.sD.take k)).length+(preN n.sD[k]).length:=by grind [uL,YK,zo]
    have h1:=qqY n.sD (k+1);have h2:=qqX (n.sD.take k);simp[go_sem,e3,e5,h0,t,q9];refine fZ (ih n.sD[k] (qt t) lo U.mu a1 _ I (by rw[zh];omega)) (fun r m2 hr=>?_) (fun r m2 hr=>?_)
    .simp_all [go_sem,aC,zG,qI,trans]
    grind
   .have a2:k=n.sD.length:=by omega
    subst a2;rw[zi,j]at I;simp[go_sem,e3,e5,h0];exact⟨zUs I,J⟩
def takL(ts:TS)(n:Nd):List tZ:=namL n++ts.sT.flatMap fun p=>namL p.body
theorem qqZ(ts)(h:okTS ts)(wp:∀ p,p∈ts.sT->WfN p.body)(n)(hw:WfN n)(hl:(preN n).length<=400)(hp:∀ p,p∈ts.sT->(preN p.body).length<=400):qg qc 138 [eTS ts,eNd n] (lNm (takL ts n)):=by
 have a3:=h.np;have hk:∀ i (o:i<ts.sT.length),ts.sT.take (i+1)=ts.sT.take i++[ts.sT[i]]:=fun i o=>uL o
 have I:∀ i,((ts.sT.take i).flatMap fun p=>namL p.body).length<=400*i:=by
  intro i;induction i with
  |zero=>simp
  |succ i ih =>
   by_cases o:i<ts.sT.length
   .rw [hk i o,List.flatMap_append,zh]
    have h1:=Wq ts.sT[i].body;have h2:=hp _ (qt o);simp only[uM,List.flatMap_nil,yg];omega
   .have e1:ts.sT.take (i+1)=ts.sT:=zY zOm
    have l:ts.sT.take i=ts.sT:=zY zOm;rw[e1];rw[l]at ih;omega
 have hn:=Wq n;refine qSU call138 func138 rfl ?_;refine fZ (kZ (szN n) n (qj _) hw.small 0 [] (.lst true []) [] (OwnF.nil zSp) zSo) (fun r J j=>?_) (fun r J j=>?_)
 case refine_2 =>
  obtain⟨t,e,_⟩:=j;cases e
 obtain⟨a4,e,C,_⟩:=j;cases e;rw[jk]at C;simp[go_sem];refine aA ts.sT.length (fun k U=>U.tm 2 = .ip (cTS ts)/\U.tm 6=aI k/\OwnF 0 U.mu 1 (U.tm 5) ((namL n++(ts.sT.take k).flatMap fun p=>namL p.body).map rNm)) ?_ ?_
 .exact ⟨zSi,zSi,zVs C⟩
 rintro k U a5 ⟨l,P,R⟩;generalize h5:U.tm 5=T at *
 by_cases g:k<ts.sT.length
 .have w1:=zWk k
  have a0:(ts.sT.take (k+1)).flatMap (fun p=>namL p.body)=(ts.sT.take k).flatMap (fun p=>namL p.body)++namL ts.sT[k].body:=by
   rw[hk k g,List.flatMap_append];simp only[uM,List.flatMap_nil,yg]
  have h1:=I k;have h2:=hp _ (qt g);simp[go_sem,l,P,h5,g,Qy];refine fZ (kZ (szN ts.sT[k].body) ts.sT[k].body (qj _) (wp _ (qt g)).small 0 U.mu T _ R (by rw[zh];omega)) (fun r J j=>?_) (fun r J j=>?_)
  .obtain ⟨t,e,a1,_⟩:=j
   cases e;simp[go_sem,l,P,w1];exact⟨g,aC ⟨zS1 l,zSi,by rw[a0,<-zG];simpa[go_sem] using a1⟩⟩
  .obtain ⟨t,e,_⟩:=j
   cases e
 .have a2:k=ts.sT.length:=by omega
  subst a2;rw[zi]at R;simp[go_sem,l,P,h5];exact rdNm R
def inL(nm:tZ)(l:List tZ):Bool:=l.any fun x=>decide (x=nm)
theorem k5{nm}:inL nm l=true↔nm∈l:=by
 unfold inL;simp
theorem qeO{nm}(h:¬nm∈l):inL nm l=false:=by
 grind [inL,absurd,k5]
theorem hasU(l nm)(R:l.length<=1000000):qg qc 246 [lNm l,aS nm] (aB (inL nm l)):=by
 refine qSU call246 func246 rfl ?_;refine aA l.length (fun k U=>U.tm 0=lNm l/\U.tm 1=aS nm/\U.tm 5=aI k/\∀ x,x∈l.take k->x≠nm) ?_ ?_
 .simp [go_sem, *]
 rintro k U T ⟨i,j,t,C⟩;by_cases g:k<l.length
 .have P:=zWk k
  by_cases o:l[k]=nm
  .have I:inL nm l=true:=k5.2 (o ▸ qt g)
   rw[I];simp[go_sem,i,j,t,g,o];exact .zsc _
  .simp [go_sem,i,j,t,g,jG o,P]
   refine aC ⟨zS1 i,zS1 j,zSi,fun x p=>?_⟩;rw[uL g,qO,qS]at p;rcases p with p|rfl
   .exact C x p
   .exact o
 .have J:k=l.length:=by omega
  subst J;rw[zi]at C;have I:inL nm l=false:=qeO fun h=>C nm h rfl
  rw[I];simp[go_sem,i,j,t];exact .zsc _
theorem qq0(u:Nat)(h:u<10):ByteArray.empty.push (UInt8.ofNat ((48:Int)+(u:Int)).toNat)=jq u:=by
 unfold jq;rw[Lib.itoa_nonneg,Lib.decDigits_one h,show ((48:Int)+(u:Int)).toNat=48+u by omega];rfl
theorem qq1(u)(h:¬u<10):jq ((u / 10:Nat):Int)++ByteArray.empty.push (UInt8.ofNat ((48:Int)+((u % 10:Nat):Int)).toNat)=jq u:=by
 unfold jq;rw[Lib.itoa_nonneg,Lib.itoa_nonneg,Lib.decDigits.eq_1 u,dif_neg h,show ((48:Int)+((u % 10:Nat):Int)).toNat=48+u % 10 by omega];apply ByteArray.ext;simp
theorem digU:∀(m u:Nat),u<=m->u<=1000000000->qg qc 245 [aI u] (aS (jq u))
 |m,u,C,I=>by
  have o:ql.wrap (48+(u:Int))=48+(u:Int):=zWr;refine qSV call245 func245 rfl ?_;by_cases h:u<10
  .have i:(u:Int)<10:=by omega
   have w2:IntKind.u8.wrap (48+(u:Int))=48+(u:Int):=IntWalk.u8_in _ ⟨zOm,zOm⟩;have g:=qq0 u h;simp[go_sem,i,o,w2,g];exact .zsc _
  .have i:¬(u:Int)<10:=by omega
   have p:=digU (u / 10) (u / 10) (qj _) zOm;have g:=qq1 u h;simp[go_sem,i];refine tR zKr ?_;have t:ql.wrap ((u:Int) / 10)=((u / 10:Nat):Int):=by rw[show ((u:Int) / 10)=((u / 10:Nat):Int) from rfl];grind [yi]
   have t3:(u:Int).tmod 10=((u % 10:Nat):Int):=rfl;have w4:ql.wrap (48+((u % 10:Nat):Int))=48+((u % 10:Nat):Int):=zWr;have w5:IntKind.u8.wrap (48+((u % 10:Nat):Int))=48+((u % 10:Nat):Int):=IntWalk.u8_in _ ⟨zOm,zOm⟩;have j:=Kv ((u / 10:Nat):Int) zOm zOm;simp[go_sem,t];refine tU p (.zs .nil) ?_;have c1:((u / 10:Nat):Int)=(u:Int) / 10:=rfl;have c2:((u % 10:Nat):Int)=(u:Int) % 10:=rfl;rw[c1]at j g;rw[c2]at w4 w5 g;have l:(jq ((u:Int) / 10)).size<=9223372036854775806:=zOm;simp[go_sem,t3,w4,w5,l,g];exact .zsc _
end
end QW
namespace QX
open YS YF Y9 Y1 Y2 YX YZ YA YB P1 QD QK QW
abbrev cWk(ts:TS)(l:List tZ)(s:ISt):List AV:=cTS ts++[lNm l,aI s.last,aI s.sM]
abbrev eWk(ts:TS)(l:List tZ)(s:ISt):AV := .agg (cWk ts l s)
theorem qq2(ts l s):∀ c,c∈cWk ts l s->HF c:=fun c g=>by
 rcases qO.1 g with g|g
 .exact Uo ts c g
 .simp only[qy,qK,or_false]at g
  rcases g with rfl|rfl|rfl
  .exact qeN l
  .exact HF.sc _
  .exact HF.sc _
theorem wE(ts l s):HF (eWk ts l s):=HF.agg (qq2 ts l s)
structure Tn (l:List tZ) (es:List (tZ×Bool)):Prop where
 mem:∀ nm:tZ,nm≠⟨#[]⟩->(nm∈l↔getK nm es=some true)
 len:es.length<=l.length+1
theorem vN_ne(k):vN k≠⟨#[]⟩:=fun e=>by
 have:=congrArg ByteArray.size e;unfold vN at this;rw[ByteArray.size_append]at this;have g:(⟨#[118]⟩:tZ).size=1:=rfl;have i:(⟨#[]⟩:tZ).size=0:=rfl;omega
theorem qq3{ts l es}(t:Tn l es)(k):yD ts es (vN k)=(decide ((means ts (vN k)).length=0)&&!inL (vN k) l):=by
 unfold yD;have i:=t.mem (vN k) (vN_ne k);have g:decide (means ts (vN k)=[])=decide ((means ts (vN k)).length=0):=by
  simp[List.length_eq_zero_iff]
 rw[g,Bool.and_comm];congr 1;by_cases j:vN k∈l
 .grind [k5]
 simp_all[qeO,Bool.not_false,decide_eq_true_eq]
theorem two{J:Type}{l}{a b:J}(g:l[0]?=some a)(i:l[1]?=some b):∃ r,l=a :: b :: r:=by
 match l,g,i with
 |_ :: _ :: r,g,i =>
  grind
abbrev zWc:List AV:=[.lst true [],.lst true [],.lst true [],.lst true [],.lst true [],aI 0,aI 0]
theorem qq4(ts)(h:okTS ts)(l es)(t:Tn l es)(hl:l.length<=400000)(s:ISt)(hs:0<=s.last/\s.last+(qm ts es:Nat)<=1000000000)(a5:∃ j,1<=j/\j<=qm ts es/\yD ts es (vN (s.last+j))=true) :
  qg qc 201 [eWk ts l s] (.tup [eWk ts l ⟨zp ts es (qm ts es) s.last,s.sM⟩,aS (vN (zp ts es (qm ts es) s.last))]):=by
 have a9:=h.ns;have aa:=h.nf;have hF:qm ts es<=l.length+40:=by have:=t.len;unfold qm;omega
 have a6:okNm ts:=⟨h.sl,zOm,zOm,fun f hf=>zW1 (h.fl f hf)⟩;generalize ab:qm ts es=F at *
 generalize hR:zp ts es F s.last=R;refine qSQ call201 func201 rfl { mt:=[1] } ?_;simp[go_sem];refine tV (fun m U=>∃(i:Nat) (k:Int),i+m=F/\0<=k/\k+m<=1000000000/\U.tm 1 = .ptr 0 0/\U.tm 2 = .ptr 1 0/\U.tm 4=aI i/\U.mu[0]?=some (.arr (cWk ts l ⟨k,s.sM⟩))/\U.mu[1]?=some (.arr zWc)/\zp ts es m k=R/\∃ j:Nat,1<=j/\j<=m/\yD ts es (vN (k+j))=true) F ?_ ?_
 .exact ⟨0,s.last,zOm,hs.1,zOm,zSi,zSi,zSi,zSi,zSi,hR,a5⟩
 rintro m U ⟨i,k,ad,ae,af,J,P,e4,m0,m1,hI,j,ag,ah,ai⟩;obtain⟨m,rfl⟩:∃ m',m=m'+1:=⟨m-1,zOm⟩;obtain⟨rr,o⟩:=two m0 m1;have w1:ql.wrap (k+1)=k+1:=zWr;have w2:ql.wrap ((l.length:Int)+40)=(l.length:Int)+40:=zWr;have w3:=zWk i;have g:(i:Int)<=(l.length:Int)+40:=zOm;obtain⟨u,hu⟩:∃ u:Nat,k+1=(u:Int):=⟨(k+1).toNat,zOm⟩;have cd:=digU u u (qj _) zOm;have aj:=Kv (u:Int) zOm zOm;have a3:1+(jq (u:Int)).size<=9223372036854775807:=zOm;have hv:(⟨#[118]⟩:tZ)++jq (u:Int)=vN (k+1):=by rw[hu];rfl
 have p:=qq3 (ts:=ts) t (k+1);have cn:=kH ts a6 (vN (k+1));have a0:=kG ts (vN (k+1));have hk:(named ts (vN (k+1))).2=(means ts (vN (k+1))).length:=by rw[kU h]
 rw[hk]at cn;generalize (named ts (vN (k+1))).1=C at *
 have ch:=hasU l (vN (k+1)) zOm;clear m0 m1;simp[go_sem,J,P,e4,o,w1,w2,g];refine tU cd (.cons (by rw[hu];exact .hf (HF.sc _)) .nil) ?_;simp[go_sem,J,P,e4,o,w1,w2,g,a3,hv];refine tU cn (.zk (zw ts) (.zs .nil)) ?_;simp[go_sem,J,P,e4,o,w1,w2,g,a0.len];rw[if_pos a0.one];generalize putCells _ 0 C=PC;have next:yD ts es (vN (k+1))=false->∃ k':Int,k'=k+1/\zp ts es m k'=R/\∃ j:Nat,1<=j/\j<=m/\yD ts es (vN (k'+j))=true:=fun hn=>by
  refine⟨k+1,rfl,?_,j-1,?_,zOm,?_⟩
  .simp_all [zp,if_neg]
  .have:j≠1:=fun e=>by grind
   omega
  grind
 by_cases T:means ts (vN (k+1))=[]
 .rw [T]at p
  simp[go_sem,J,P,e4,o,w1,w2,g,T];refine tU ch (.zk (qeN l) (.zs .nil)) ?_;cases a4:inL (vN (k+1)) l with
  |true =>
   rw[a4]at p;obtain⟨k',I,a1,a2⟩:=next p;simp[go_sem,J,P,e4,o,w1,w2,w3,g];exact⟨m,zOm,aC ⟨i+1,k+1,zOm,zOm,zOm,zS1 J,zS1 P,zSi,zSi,zSi,by rw[<-I];exact a1,by rw[<-I];exact a2⟩⟩
  |false =>
   rw[a4]at p;have a7:R=k+1:=by rw[<-hI];simp only[zp];rw[if_pos (by rw[p];rfl)]
   simp[go_sem,J,P,e4,o,w1,w2,g];rw[a7];exact .hf _ (HF.tup fun x hx=>by
    simp only[qy,qK,or_false]at hx;rcases hx with rfl|rfl
    .exact wE ts l ⟨k+1,s.sM⟩
    .exact HF.sc _)
 .have a8:¬(means ts (vN (k+1))).length=0:=fun e=>T (List.length_eq_zero_iff.1 e)
  rw[decide_eq_false a8]at p;obtain⟨k',I,a1,a2⟩:=next p;simp[go_sem,J,P,e4,o,w1,w2,w3,g,T];exact⟨m,zOm,aC ⟨i+1,k+1,zOm,zOm,zOm,zS1 J,zS1 P,zSi,zSi,zSi,by rw[<-I];exact a1,by rw[<-I];exact a2⟩⟩
abbrev Sb:=tZ×IV
def cAr:Option Nd->List AV
 |some a=>cNd a
 |none=>[aI 0,aS ⟨#[]⟩,aI 0,.lst true [],aI 0]
@[go_sem] theorem cAr_some(a):cAr (some a)=cNd a:=rfl
@[go_sem] theorem cAr_none:cAr none=[aI 0,aS ⟨#[]⟩,aI 0,.lst true [],aI 0]:=rfl
@[go_sem] theorem qq5(o):(cAr o).length=5:=by cases o<;>simp[go_sem,yP]
theorem qq6(o):∀ c,c∈cAr o->HF c:=by
 cases o with
 |some a=>exact y8 a
 |none =>
  intro c g;simp only[cAr,qy,qK,or_false]at g;rcases g with rfl|rfl|rfl|rfl|rfl
  .exact HF.sc _
  .exact HF.sc _
  .exact HF.sc _
  .exact HF.lst fun r i=>absurd i qK
  .exact HF.sc _
abbrev cSb(x:Sb):List AV:=[aS x.1,aS x.2.name,aB x.2.arg.isSome]++cAr x.2.arg++[aI x.2.size]
abbrev lSb(l:List Sb):AV := .lst false (l.map cSb)
def uK(nm:tZ)(l:List Sb):Option IV:=l.foldl (fun r e=>if e.1=nm then some e.2 else r) none
theorem Wr(nm l e):uK nm (l++[e])=if e.1=nm then some e.2 else uK nm l:=by
 unfold uK;rw[List.foldl_append];rfl
theorem k6{mu}(ts l s n z):Rd mu (.tup [eWk ts l s,eNd n,aI z]) (.tup [eWk ts l s,eNd n,aI z]) := .hf _ (HF.tup fun x g=>by
 simp only[qy,qK,or_false]at g;rcases g with rfl|rfl|rfl
 .exact wE ts l s
 .exact qE n
 .exact HF.sc _)
def Qh(sc:List Sb)(n:Nd)(s:ISt):(Nd×Int)×ISt:=match uK n.name sc with
 |none=>((n,1),s)
 |some v=>match v.arg with
  |none=>((.mk n.op v.name n.n n.sD n.pos,1),s)
  |some a=>((a,v.size),payS v.size s)
theorem leafU(ts l sc)(hl:sc.length<=1000000)(n s)(hs:0<=s.sM/\s.sM<=1000000)(hz:∀ e,e∈sc->0<=e.2.size/\e.2.size<=1000000) :
  qg qc 198 [eWk ts l s,lSb sc,eNd n] (.tup [eWk ts l (Qh sc n s).2,eNd (Qh sc n s).1.1,aI (Qh sc n s).1.2]):=by
 unfold Qh;generalize hR:uK n.name sc=R;have wl:ql.wrap ((sc.length:Int)-1)=(sc.length:Int)-1:=zWr;refine qSQ call198 func198 rfl { mt:=[3,5] } ?_;simp[go_sem,wl,q9];refine tV (fun m U=>m<=sc.length/\U.tm 1=lSb sc/\U.tm 3 = .ptr 0 0/\U.tm 5 = .ptr 1 0/\U.tm 6 = .ptr 2 0/\U.tm 7 = .ptr 3 0/\U.tm 9=aI ((m:Int)-1)/\U.mu=[.arr (cWk ts l s),.arr (cNd n),.arr zWc,.arr [aI 0,aS ⟨#[]⟩,aI 0,.lst true [],aI 0]]/\uK n.name (sc.take m)=R) sc.length ?_ ?_
 .simp [go_sem, *]
 rintro m U ⟨a2,j,o,p,t,e7,C,I,P⟩;cases m with
 |zero =>
  have a1:R=none:=by rw[<-P];rfl
  subst a1;simp[go_sem,j,o,p,t,e7,C,I,q9];refine fG [0,1,4,2,3] [(0,0,[]),(1,0,[]),(4,0,[]),(2,1,[1]),(3,1,[])] zKr zKr zSi ?_;simp[go_sem,j,o,p,t,e7,C,I,q9]
  grind [k6]
 |succ m =>
  have g:m<sc.length:=zOm;have a3:(0:Int)<=((m+1:Nat):Int)-1:=zOm;have T:((m+1:Nat):Int)-1=(m:Int):=zOm;rw[T]at C;rw[uL g,Wr]at P;have w1:ql.wrap ((m:Int)-1)=(m:Int)-1:=zWr;have a4:=hz _ (qt g);generalize i:sc[m]=e at *
  by_cases J:e.1=n.name
  .rw [if_pos J]at P
   subst P;have w2:ql.wrap (s.sM+e.2.size)=s.sM+e.2.size:=zWr;simp[go_sem,j,o,p,t,e7,C,I,q9,g];refine tR zKr ?_;simp[go_sem,j,o,p,t,e7,C,I,q9,g,i,J];cases ha:e.2.arg with
   |none =>
    simp[go_sem,j,o,p,t,e7,C,I,q9,g,i,J,ha];refine fG [0,1,4,2,3] [(0,0,[]),(1,0,[]),(4,0,[]),(2,1,[1]),(3,1,[])] zKr zKr zSi ?_;have a0:(cNd n).set 1 (AV.sc (.string e.2.name))=cNd (.mk n.op e.2.name n.n n.sD n.pos):=by rw[yP n,yP];rfl
    rw[a0];simp[go_sem,j,o,p,t,e7,C,I,q9]
    grind [k6]
   |some a =>
    simp[go_sem,j,o,p,t,e7,C,I,q9,g,i,J,ha];refine fG [0,1,2,3,4,5,6,7,8,9] [(0,0,[]),(1,0,[]),(2,0,[]),(3,0,[]),(4,0,[]),(5,0,[]),(6,0,[]),(7,0,[]),(8,0,[]),(9,1,[])] zKr zKr zSi ?_;simp[go_sem,j,o,p,t,e7,C,I,q9,g,i,J,ha,w2];refine fG [0,1,2,3,4,5,6,7,8,9,10,13,11,12] [(0,0,[]),(1,0,[]),(2,0,[]),(3,0,[]),(4,0,[]),(5,0,[]),(6,0,[]),(7,0,[]),(8,0,[]),(9,0,[]),(10,0,[]),(13,0,[]),(11,1,[5,10]),(12,1,[10])] zKr zKr zSi ?_;simp[go_sem,j,o,p,t,e7,C,I,q9,g,i,J,ha,w2]
    grind [k6,payS]
  .rw [if_neg J]at P
   simp[go_sem,j,o,p,t,e7,C,I,q9,g];refine tR zKr ?_;simp[go_sem,j,o,p,t,e7,C,I,q9,g,i,jG J,w1];exact⟨m,zOm,aC ⟨zOm,zS1 j,zS1 o,zS1 p,zS1 t,by simp[go_sem,e7],zSi,zS1 I,P⟩⟩
theorem k7:∀ m n,szN n<=m->Small n->depN n<=1000000->qg qc 139 [eNd n] (aI (depN n))
 | 0,n,P,_,_=>by obtain⟨op,nm,i,ks,p⟩:=n;simp[szN]at P
 |m+1,n,P,R,T=>by
  have ih:∀ k,k∈n.sD->qg qc 139 [eNd k] (aI (depN k)):=fun k j =>
   k7 m k (zW1 (zf j)) (R.kid j) (by rw[Zg]at T;have:=qbZ j;omega)
  rw[Zg]at T⊢;have a0:=R.len;have a1:=UU n.sD;generalize hD:yq n.sD=D at *
  refine qSU call139 func139 rfl ?_;refine aA n.sD.length (fun k U=>∃ d,U.tm 3=aI d/\U.tm 1 = .ip (cNd n)/\U.tm 4=aI k/\0<=d/\max d (yq (n.sD.drop k))=D) ?_ ?_
  .exact ⟨0,zSi,zSi,zSi,zOm,by grind⟩
  .rintro k U j ⟨d,t,l,C,a2,o⟩
   by_cases I:k=n.sD.length
   .subst I
    rw[zU]at o;simp only[yq]at o;have J:d=D:=zOm;subst J;have w:ql.wrap (d+1)=d+1:=zWr;simp[go_sem,t,l,C,w];exact .zsc _
   .have g:k<n.sD.length:=by omega
    have w1:=zWk k;rw[zg g]at o;simp only[yq]at o;simp[go_sem,t,l,C,g,q9];refine tU (ih n.sD[k] (qt g)) (.zk (qE _) .nil) ?_;simp[go_sem,t,l,C,w1];refine⟨g,aC ?_⟩;refine⟨if d<depN n.sD[k] then depN n.sD[k] else d,zSi,zS1 l,zSi,?_,?_⟩
    .omega
    omega
end QX
namespace FE
open Y1 Y9
def yf(op a s:Int)(i:Nat)(k:Int):Int:=if op=48\/op=49\/op=51 then k*s else if i=1/\(op=45\/op=46\/op=15) then k*a else k
def minW(v:Int):Int:=if 1000000<v then 1000000 else v
mutual
def wkN(a s:Int):Nd->Int
 | .mk op _ _ ks _=>wkNs a s op 0 ks 1
def wkNs(a s op:Int):Nat->List Nd->Int->Int
 |_,[],sum=>sum
 |i,k :: ks,sum=>wkNs a s op (i+1) ks (minW (sum+yf op a s i (wkN a s k)))
end
theorem qq7(a s n):wkN a s n=wkNs a s n.op 0 n.sD 1:=by
 obtain⟨op,nm,i,ks,q⟩:=n;rw[wkN];rfl
theorem qeP{op a s i k}(j:0<=a/\a<=100)(l:0<=s/\s<=100)(g:0<=k/\k<=1000000):0<=yf op a s i k/\yf op a s i k<=100000000:=by
 unfold yf;have o:=Int.mul_nonneg g.1 j.1;have p:=Int.mul_nonneg g.1 l.1;have t:k*a<=1000000*100:=jl g.2 j.2 j.1 zOm;have C:k*s<=1000000*100:=jl g.2 l.2 l.1 zOm;split
 .omega
 omega
theorem qeQ{v}(h:0<=v):0<=minW v/\minW v<=1000000:=by unfold minW;split<;>omega
mutual
theorem qeR(a s:Int)(g:0<=a/\a<=100)(i:0<=s/\s<=100):∀ n:Nd,0<=wkN a s n/\wkN a s n<=1000000
 | .mk op _ _ ks _=>by rw[wkN];exact qeS a s g i op ks 0 1 zOm
theorem qeS(a s:Int)(g:0<=a/\a<=100)(j:0<=s/\s<=100)(op:Int):∀(ks:List Nd)(i:Nat)(sum:Int),0<=sum/\sum<=1000000->0<=wkNs a s op i ks sum/\wkNs a s op i ks sum<=1000000
 | [],_,sum,h=>by rw[wkNs];exact h
 |k :: ks,i,sum,h=>by
  rw[wkNs];have l:=qeR a s g j k;have o:=qeP (op:=op) (i:=i) g j l;exact qeS a s g j op ks (i+1) _ (qeQ zOm)
end
theorem k8(a s)(ha:0<=a/\a<=100)(hs:0<=s/\s<=100):∀ m n,szN n<=m->Small n->qg qc 35 [eNd n,aI a,aI s] (aI (wkN a s n))
 | 0,n,hm,_=>by obtain⟨op,nm,i,ks,p⟩:=n;simp[szN]at hm
 |m+1,n,hm,a7=>by
  have ih:∀ k,k∈n.sD->qg qc 35 [eNd k,aI a,aI s] (aI (wkN a s k)):=fun k hk=>k8 a s ha hs m k (zW1 (zf hk)) (a7.kid hk)
  rw[qq7];have a9:=a7.len;generalize hR:wkNs a s n.op 0 n.sD 1=R;refine qSU call35 func35 rfl ?_;refine aA n.sD.length (fun k U=>∃ sum:Int,U.tm 1=aI a/\U.tm 2=aI s/\U.tm 3 = .ip (cNd n)/\U.tm 7=aI sum/\U.tm 8=aI k/\(0<=sum/\sum<=1000000)/\wkNs a s n.op k (n.sD.drop k) sum=R) ?_ ?_
  .simp [go_sem, *]
  .rintro k U hk ⟨sum,t,C,I,e7,e8,aa,o⟩
   by_cases a8:k=n.sD.length
   .subst a8
    rw[zU,wkNs]at o;subst o;simp[go_sem,t,C,I,e7,e8];exact .zsc _
   .have l:k<n.sD.length:=by omega
    rw[zg l,wkNs]at o;have w1:=zWk k;have a3:=qeR a s ha hs n.sD[k];have ab:=qeP (op:=n.op) (i:=k) ha hs a3;have j:=qeQ (v:=sum+yf n.op a s k (wkN a s n.sD[k])) zOm;have m1:=Int.mul_nonneg a3.1 ha.1;have m2:=Int.mul_nonneg a3.1 hs.1;have m3:wkN a s n.sD[k] * a<=1000000*100:=jl a3.2 ha.2 ha.1 zOm;have m4:wkN a s n.sD[k] * s<=1000000*100:=jl a3.2 hs.2 hs.1 zOm;simp[go_sem,t,C,I,e7,e8,l,q9];refine tU (ih n.sD[k] (qt l)) (.zk (qE _) (.zs (.zs .nil))) ?_;generalize wkN a s n.sD[k]=K at *
    by_cases J:k=1
    .have g:(k:Int)=1:=by omega
     by_cases a0:n.op=48
     .have P:yf n.op a s k K=K*s:=by simp[yf,a0,J,g]
      rw[P]at o j;have w2:ql.wrap (K*s)=K*s:=zWr;have T:ql.wrap (sum+K*s)=sum+K*s:=zWr;simp[go_sem,t,C,I,e7,e8,w1,w2,T,l,a0,eq_true J,eq_true g];simp_all[go_sem,aC,minW]
     by_cases a1:n.op=49
     .have P:yf n.op a s k K=K*s:=by simp[yf,a1,J,g]
      rw[P]at o j;have w2:ql.wrap (K*s)=K*s:=zWr;have T:ql.wrap (sum+K*s)=sum+K*s:=zWr;simp[go_sem,t,C,I,e7,e8,w1,w2,T,l,a1,eq_true J,eq_true g];exact aC ⟨_,zS1 t,zS1 C,zS1 I,by simp[go_sem,minW],zSi,j,o⟩
     by_cases a2:n.op=51
     .have P:yf n.op a s k K=K*s:=by simp[yf,a2,J,g]
      rw[P]at o j;have w2:ql.wrap (K*s)=K*s:=zWr;have T:ql.wrap (sum+K*s)=sum+K*s:=zWr;simp[go_sem,t,C,I,e7,e8,w1,w2,T,l,a2,eq_true J,eq_true g];exact aC ⟨_,zS1 t,zS1 C,zS1 I,by simp[go_sem,minW],zSi,j,o⟩
     by_cases a4:n.op=45
     .have P:yf n.op a s k K=K*a:=by simp[yf,a4,J,g]
      rw[P]at o j;have w2:ql.wrap (K*a)=K*a:=zWr;have T:ql.wrap (sum+K*a)=sum+K*a:=zWr;simp[go_sem,t,C,I,e7,e8,w1,w2,T,l,a4,eq_true J,eq_true g];exact aC ⟨_,zS1 t,zS1 C,zS1 I,by simp[go_sem,minW],zSi,j,o⟩
     by_cases a5:n.op=46
     .have P:yf n.op a s k K=K*a:=by simp[yf,a5,J,g]
      rw[P]at o j;have w2:ql.wrap (K*a)=K*a:=zWr;have T:ql.wrap (sum+K*a)=sum+K*a:=zWr;simp[go_sem,t,C,I,e7,e8,w1,w2,T,l,a5,eq_true J,eq_true g];exact aC ⟨_,zS1 t,zS1 C,zS1 I,by simp[go_sem,minW],zSi,j,o⟩
     by_cases a6:n.op=15
     .have P:yf n.op a s k K=K*a:=by simp[yf,a6,J,g]
      rw[P]at o j;have w2:ql.wrap (K*a)=K*a:=zWr;have T:ql.wrap (sum+K*a)=sum+K*a:=zWr;simp[go_sem,t,C,I,e7,e8,w1,w2,T,l,a6,eq_true J,eq_true g];exact aC ⟨_,zS1 t,zS1 C,zS1 I,by simp[go_sem,minW],zSi,j,o⟩
     have P:yf n.op a s k K=K:=by simp[yf,a0,a1,a2,a4,a5,a6,J,g]
     rw[P]at o j;have w2:=w1;have T:ql.wrap (sum+K)=sum+K:=zWr;simp[go_sem,t,C,I,e7,e8,w1,w2,T,l,a0,a1,a2,a4,a5,a6,eq_true J,eq_true g];simp_all[go_sem,aC,minW]
    .have g:¬(k:Int)=1:=by omega
     by_cases a0:n.op=48
     .have P:yf n.op a s k K=K*s:=by simp[yf,a0,J,g]
      rw[P]at o j;have w2:ql.wrap (K*s)=K*s:=zWr;have T:ql.wrap (sum+K*s)=sum+K*s:=zWr;simp[go_sem,t,C,I,e7,e8,w1,w2,T,l,a0,J,g];exact aC ⟨_,zS1 t,zS1 C,zS1 I,by simp[go_sem,minW],zSi,j,o⟩
     by_cases a1:n.op=49
     .have P:yf n.op a s k K=K*s:=by simp[yf,a1,J,g]
      rw[P]at o j;have w2:ql.wrap (K*s)=K*s:=zWr;have T:ql.wrap (sum+K*s)=sum+K*s:=zWr;simp[go_sem,t,C,I,e7,e8,w1,w2,T,l,a1,J,g];exact aC ⟨_,zS1 t,zS1 C,zS1 I,by simp[go_sem,minW],zSi,j,o⟩
     by_cases a2:n.op=51
     .have P:yf n.op a s k K=K*s:=by simp[yf,a2,J,g]
      rw[P]at o j;have w2:ql.wrap (K*s)=K*s:=zWr;have T:ql.wrap (sum+K*s)=sum+K*s:=zWr;simp[go_sem,t,C,I,e7,e8,w1,w2,T,l,a2,J,g];exact aC ⟨_,zS1 t,zS1 C,zS1 I,by simp[go_sem,minW],zSi,j,o⟩
     have P:yf n.op a s k K=K:=by simp[yf,a0,a1,a2,J,g]
     rw[P]at o j;have w2:=w1;have T:ql.wrap (sum+K)=sum+K:=zWr;simp[go_sem,t,C,I,e7,e8,w1,w2,T,l,a0,a1,a2,J,g];exact aC ⟨_,zS1 t,zS1 C,zS1 I,by simp[go_sem,minW],zSi,j,o⟩
end FE
set_option maxHeartbeats 1000000
namespace OI
open Y1 Y9 E1 E4 GF Q4
def RlOk(r:Rl):Prop:=r.ts.length<=1000000/\zq r.ts
def BdOk(b:Bd):Prop:=RlOk b.lo/\RlOk b.up
def insB(a b:Bd):Bool:=decide (a.lo.ar=b.lo.ar)&&(inOk b.lo a.lo&&inOk a.up b.up)
theorem qeT(a b)(i:BdOk a)(j:BdOk b):qg qc 27 [eBd a,eBd b] (aB (insB a b)):=by
 obtain⟨⟨t,l⟩,C,I⟩:=i;obtain⟨⟨J,P⟩,R,o⟩:=j;have c1:=in06 b.lo a.lo zOm zOm l;have c2:=in06 a.up b.up zOm zOm o;refine qSV call27 func27 rfl ?_;unfold insB;by_cases h:a.lo.ar=b.lo.ar
 .obtain ⟨⟨p,g⟩,T⟩:=a
  simp only at h c1 c2⊢;subst h;simp[go_sem];refine tU c1 (.zk (qx _) (.zk (qx ⟨b.lo.ar,g⟩) .nil)) ?_;cases inOk b.lo ⟨b.lo.ar,g⟩ with
  |true =>
   simp[go_sem];refine fR c2 (.zk (qx _) (.zk (qx _) .nil)) ?_;exact .zsc _
  |false =>
   simp[go_sem];exact .zsc _
 .simp [go_sem,h]
  exact .zsc _
def tigB(a b:List Bd):Bool:=decide (a.length=b.length)&&((a.zip b).all fun p=>insB p.1 p.2)
theorem qq8(a b)(hl:a.length<=1000000)(T:∀ x,x∈a->BdOk x)(hb:∀ x,x∈b->BdOk x):qg qc 20 [lBd a,lBd b] (aB (tigB a b)):=by
 refine qSV call20 func20 rfl ?_;by_cases h:a.length=b.length
 .have C:tigB a b=((a.zip b).all fun p=>insB p.1 p.2):=by unfold tigB;simp[h]
  rw[C];generalize I:((a.zip b).all fun p=>insB p.1 p.2)=R;simp[go_sem,h];refine aA a.length (fun k U=>U.tm 0=lBd a/\U.tm 1=lBd b/\U.tm 5=aI k/\(((a.drop k).zip (b.drop k)).all fun p=>insB p.1 p.2)=R) ?_ ?_
  .exact ⟨zSi,zSi,zSi,zUs I⟩
  rintro k U hk ⟨l,o,t,i⟩;by_cases j:k<a.length
  .have g:k<b.length:=by omega
   have w1:=zWk k;rw[zg j,zg g]at i;simp only[List.zip_cons_cons,List.all_cons]at i;have c:=qeT a[k] b[k] (T _ (qt j)) (hb _ (qt g));simp[go_sem,l,o,t,h,g];refine fG [0,1,2,3,4,5,6,7,8,9] [(0,0,[]),(1,0,[]),(2,0,[]),(3,0,[]),(4,0,[]),(5,0,[]),(6,0,[]),(7,0,[]),(8,1,[]),(9,0,[])] zKr zKr zSi ?_;simp[go_sem,l,o,t,j,g];refine tU c (.zk (z8 _) (.zk (z8 _) .nil)) ?_;cases P:insB a[k] b[k] with
   |true =>
    rw[P,Bool.true_and]at i;simp[go_sem,l,o,t,w1];refine⟨g,aC ?_⟩;exact⟨zS1 l,zS1 o,zSi,i⟩
   |false =>
    rw[P,Bool.false_and]at i;subst i;simp[go_sem];exact .zsc _
  .have J:k=a.length:=by omega
   subst J;rw[zU]at i;simp at i;subst i;simp[go_sem,l,t,h];exact .zsc _
 .have C:tigB a b=false:=by unfold tigB;simp[h]
  rw[C];simp[go_sem,h];exact .zsc _
theorem qq9(a b)(hl:a.length<=1000000)(P:∀ x,x∈a->x.lo.ts.length<=1000000/\x.up.ts.length<=1000000):qg qc 18 [lBd a,lBd b] (aB (decide (a=b))):=by
 refine qSV call18 func18 rfl ?_;by_cases h:a.length=b.length
 .generalize I:decide (a=b)=R
  simp[go_sem,h];refine aA a.length (fun k U=>U.tm 0=lBd a/\U.tm 1=lBd b/\U.tm 5=aI k/\decide (a.drop k=b.drop k)=R) ?_ ?_
  .exact ⟨zSi,zSi,zSi,zUs I⟩
  rintro k U hk ⟨l,o,p,j⟩;by_cases i:k<a.length
  .have g:k<b.length:=by omega
   have T:=zWk k;have hA:=P _ (qt i);rw[zg i,zg g]at j;have c1:=mM a[k].lo b[k].lo zOm;have c2:=mM a[k].up b[k].up zOm;simp[go_sem,l,o,p,h,g];refine fG [0,1,2,3,4,5,6,7,8,9,10,11,12,13,14,15,16,17,18,19,20,21,22,23,24,25] [(0,0,[]),(1,0,[]),(2,0,[]),(3,0,[]),(4,0,[]),(5,0,[]),(6,0,[]),(7,0,[]),(8,0,[]),(9,0,[]),(10,1,[]),(11,0,[]),(12,0,[]),(13,0,[]),(14,0,[]),(15,0,[]),(16,0,[]),(17,0,[]),(18,0,[]),(19,0,[]),(20,0,[]),(21,0,[]),(22,0,[]),(23,1,[]),(24,0,[]),(25,0,[])] zKr zKr zSi ?_;simp[go_sem,l,o,p,i,g];refine tU c1 (.zk (qx _) (.zk (qx _) .nil)) ?_;by_cases g1:a[k].lo=b[k].lo
   .simp [go_sem,l,o,p,i,g,g1]
    refine tU c2 (.zk (qx _) (.zk (qx _) .nil)) ?_;by_cases t:a[k].up=b[k].up
    .have g3:a[k]=b[k]:=by
      generalize a[k]=x at *
      generalize b[k]=y at *
      cases x;cases y;simp only at g1 t;rw[g1,t]
     rw[g3]at j;simp[go_sem,l,o,p,T,t];refine⟨g,aC ?_⟩;exact⟨zS1 l,zS1 o,zSi,by rw[<-j];exact decide_eq_decide.2 ⟨fun e=>by rw[e],fun e=>(List.cons.inj e).2⟩⟩
    .have C:R=false:=by
      rw[<-j,decide_eq_false_iff_not];intro e;rw[uc]at e;exact t (by rw[e.1])
     subst C;simp[go_sem,t];exact .zsc _
   .have C:R=false:=by
     rw[<-j,decide_eq_false_iff_not];intro e;rw[uc]at e;exact g1 (by rw[e.1])
    simp[go_sem,l,o,p,i,g,g1];rw[C];exact .zsc _
  .have J:k=a.length:=by omega
   subst J;rw[zU,List.drop_of_length_le zOm]at j;simp at j;subst j;simp[go_sem,l,p,h];exact .zsc _
 .have C:decide (a=b)=false:=by
   rw[decide_eq_false_iff_not];intro e;exact h (by rw[e])
  rw[C];simp[go_sem,h];exact .zsc _
theorem qeU:∀ m n,szN n<=m->∀ left,-1000000<=left/\left<=1000000->qg qc 126 [eNd n,aI left] (aI (cntN n left))
 | 0,n,P,_,_=>by obtain⟨op,nm,i,ks,p⟩:=n;simp[szN]at P
 |m+1,n,P,left,hl=>by
  have ih:∀ k,k∈n.sD->∀ left:Int,-1000000<=left/\left<=1000000->qg qc 126 [eNd k,aI left] (aI (cntN k left)):=fun k T =>
   qeU m k (zW1 (zf T))
  rw[X8];generalize hR:yy n.sD left 1=R;refine qSU call126 func126 rfl ?_;refine aA n.sD.length (fun k U=>∃ sum:Int,U.tm 1=aI left/\U.tm 2 = .ip (cNd n)/\U.tm 5=aI sum/\U.tm 6=aI k/\(k:Int)+1<=sum/\(sum<=left+1\/sum=1)/\yy (n.sD.drop k) left sum=R) ?_ ?_
  .exact ⟨1,zSi,zSi,zSi,zSi,zOm,zOm,zUs hR⟩
  .rintro k U T ⟨sum,l,o,t,C,a0,a1,j⟩
   by_cases J:k=n.sD.length
   .subst J
    rw[zU]at j;simp only[yy]at j;subst j;simp[go_sem,l,o,t,C];exact .zsc _
   .have g:k<n.sD.length:=by omega
    rw[zg g]at j;simp only[yy]at j;by_cases I:sum<=left
    .rw [if_pos I]at j
     have w1:=zWk k;have w2:ql.wrap (left-sum)=left-sum:=zWr;have a2:=UG n.sD[k] (left-sum);have w3:ql.wrap (sum+cntN n.sD[k] (left-sum))=sum+cntN n.sD[k] (left-sum):=zWr;simp[go_sem,l,o,t,C,g,I,w2,q9];refine tU (ih n.sD[k] (qt g) (left-sum) ⟨zOm,zOm⟩) (.zk (qE _) (.zs .nil)) ?_;simp[go_sem,l,o,t,C,w1,w3];refine⟨g,aC ?_⟩;exact⟨sum+cntN n.sD[k] (left-sum),zS1 l,zS1 o,zSi,zSi,zOm,zOm,j⟩
    .rw [if_neg I]at j
     subst j;simp[go_sem,l,o,t,C,g,I];exact .zsc _
theorem qrA(n left)(g : -1000000<=left/\left<=1000000):qg qc 60 [eNd n,aI left] (aB (decide (cntN n left<=left))):=by
 refine qSU call60 func60 rfl ?_;refine fR (qeU _ n (qj _) left g) (.zk (qE _) (.zs .nil)) ?_;exact .zsc _
end OI
namespace E6
end E6
namespace ED
end ED
namespace EG
end EG
namespace EH
end EH
namespace FJ
end FJ
namespace IA
end IA
end Go.Proofs.YtlnbdknjkmmgbaaGreatDoor
