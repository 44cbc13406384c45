/-
  Own library, part 9: an abstract reading of values and a calculus over it; contracts of functions; plain lemmas.
-/
import Derived.Test.YtipbakanneogpaaGreatDoorRows
import Derived.LaidMore
import Derived.MakeChecks
import Derived.WalkKit
import Derived.JoinedCond
import Derived.Test.YtipbakanneogpaaGreatDoorMh
set_option linter.unusedVariables false
set_option linter.unusedSimpArgs false
set_option maxRecDepth 100000
open Go renaming World->qd,Value->qf
open Go.Proofs.Tryz renaming prog->qe
open List renaming getElem?_eq_some_iff->qk,mem_map->qn,getElem_mem->qs,range->qu,mem_cons->qy,getElem?_eq_getElem->qA,not_mem_nil->qH,mem_append->qK,getElem?_set_self->qM,replicate->qO,take_length->qP,mem_singleton->qV,length_append->za,map_append->zb,mem_cons_of_mem->zc,getElem?_map->zj,mem_cons_self->zl,drop_eq_getElem_cons->zp,append_assoc->zt,length_cons->zu,length_map->zF,getD_eq_getElem?_getD->zG,getElem?_append_right->zJ,append_nil->zO,map_cons->zQ,mem_of_mem_take->jD,nil_append->vo,getElem_of_mem->uf,getElem_map->Zv
open Go.IntKind renaming i64->qp
open Nat renaming le_refl->qr
open Bool renaming and_eq_true->qI
open Int renaming natCast_add->pi
namespace Go.Proofs.YtipbakanneogpaaGreatDoor
open Go Go.Ev Go.Proofs Tryz
namespace I1
open YF P1 EO EP EQ F4 GF GR GS GU
theorem qsU(l x)(P:l.length<=1000000000):qi qe 99 [lI l,aI x] (aB (decide (x∈l))):=by
 refine qSU call99 func99 rfl ?_;refine qm.up l.length (fun k U=>U.tm 0=lI l/\U.tm 1=aI x/\U.tm 5=aI k/\U.mu=[]/\∀(i:Nat)(h:i<l.length),i<k->l[i]≠x) ?_ ?_
 .simp [go_sem]
 rintro k U R ⟨j,o,p,r,I⟩;by_cases g:k<l.length
 .by_cases t:l[k]=x
  .simp [go_sem,j,o,p,r,g,t]
   rw[decide_eq_true (by grind)];exact .zsc _
  .simp [go_sem,j,o,p,r,g,t]
   refine⟨zWr,fun i h J=>?_⟩;rcases Nat.lt_succ_iff_lt_or_eq.1 J with C|C
   .exact I i h C
   grind
 .simp [go_sem,j,o,p,r,g]
  rw[decide_eq_false (fun h=>by
   grind [List.mem_iff_getElem])]
  exact .zsc _
def wL(k:Nat)(x:Bd)(j:Nat):List (Int×Int):=((x.up.ts.take j).filter fun t=>!decide (t∈x.lo.ts)).map fun t=>((k:Int),t)
theorem qsV(k x j h):wL k x (j+1)=wL k x j++(if x.up.ts[j]∈x.lo.ts then [] else [((k:Int),x.up.ts[j])]):=by
 unfold wL;rw[yj h,List.filter_append,zb];by_cases g:x.up.ts[j]∈x.lo.ts<;>simp[g]
theorem qsW(k x j):(wL k x j).length<=x.up.ts.length:=by
 grind [wL,zF,Nat.le_trans,List.length_filter_le,List.length_take_le']
theorem qsX(l)(hl:l.length<=1000)(hb:∀ x,x∈l->Zo x):qi qe 54 [lBd l] (lP (qQ l 0)):=by
 refine qSU call54 func54 rfl ?_;refine kL l.length (fun k U=>U.tm 0=lBd l/\U.tm 4=aI k/\Own U.mu 2 (U.tm 3) ((qQ (l.take k) 0).map rP)) ?_ ?_
 .exact ⟨zSi,zSi,.inl (by simp[go_sem,qQ])⟩
 rintro k U hk ⟨p,t,C⟩;by_cases o:k<l.length
 .have w1:=zWk k
  have hx:=hb _ (qs o);have a1:=hx.up;have a2:=hx.lo;have a0:=UO (l.take k) 0 fun y hy=>hb y (jD hy)
  have a3:(qQ (l.take k) 0).length<=1000000000:=by
   grind
  have I:=qa6 l k o;have J:wL k l[k] l[k].up.ts.length=jk k l[k]:=by unfold wL;rw[qP];rfl
  simp[go_sem,p,t,o];refine kL l[k].up.ts.length (fun j st2=>st2.tm 0=lBd l/\st2.tm 4=aI k/\st2.tm 5=aI j/\Own st2.mu 2 (st2.tm 3) ((qQ (l.take k) 0++wL k l[k] j).map rP)) ?_ ?_
  .simp_all [go_sem,wL]
  clear p t C;rintro j st2 hj ⟨p,t,R,C⟩;by_cases r:j<l[k].up.ts.length
  .have w2:=zWk j
   have hh:=qsU l[k].lo.ts l[k].up.ts[j] zOm;have hs:=qsV k l[k] j r;have a4:=qsW k l[k] j;simp[go_sem,p,t,R,o,r];refine cH zKr ?_;simp[go_sem,p,t,R,o,r];refine cQ hh (.zk (zh _) (.zs .nil)) ?_;by_cases hm:l[k].up.ts[j]∈l[k].lo.ts
   .simp_all [go_sem,if_pos,zO,aK]
   .rw [if_neg hm]at hs
    simp[go_sem,hm,p,t,R,o,r];refine qz.ownB (e:=120) (sz:=2) (bt:=16) (zv := .agg [aI 0,aI 0]) (xs:=(qQ (l.take k) 0++wL k l[k] j).map rP) (ys:=[rP ((k:Int),l[k].up.ts[j])]) zSi zSi zSi rfl rfl zOm zOm C (by simp[qD]) (Vc _) (Vc [_]) zSo ?_;simp_all[go_sem,aK,zt,zb]
  .have P:j=l[k].up.ts.length:=by omega
   subst P;rw[J,<-I]at C;simp[go_sem,p,t,R,o,w1]
   try refine⟨o,aK ?_⟩
   try refine aK ?_
   exact⟨zS1 p,zSi,zVs C⟩
 .have P:k=l.length:=by omega
  subst P;rw[qP]at C;simp[go_sem,p,t];exact cA C
def jC(N:Nat):List Ch:=if 1<N then (qu N).map fun k:Nat=>((-1:Int),(0:Int),((k+1:Nat):Int)) else []
theorem qsY(N)(h:N<=4):(jC N).length<=4:=by unfold jC;split<;>simp<;>omega
theorem qsZ(ts)(sc:Sc)(bs)(N:Nat)(hS:sc.sN=N)(hN:N<=4)(hl:bs.length<=1000)(hb:∀ x,x∈bs->Zo x)(ak:bs.length<=ts.sA.length)(ab:(qQ bs 0).length<=100000) :
  qi qe 28 [eTS ts,eSc sc,lBd bs] (lCh (jC N++chs (vsT ts) (qQ bs 0) N)):=by
 have a6:=qsX bs hl hb;have a8:=KL bs 0;generalize hF:qQ bs 0=F at *
 have ad:True:=trivial;have a9:=qsY N hN;by_cases h1:1<N
 .refine qSV call28 func28 rfl ?_
  have ag:(1:Int)<N:=zOm;simp[go_sem,hS,h1,ag];refine kL N (fun k U=>U.tm 2=lBd bs/\U.tm 3 = .ip (cTS ts)/\U.tm 4 = .ip [lI sc.sC,aI sc.sN]/\U.tm 8=aI ((k+1:Nat):Int)/\Own U.mu 3 (U.tm 7) (((qu k).map fun k:Nat=>((-1:Int),(0:Int),((k+1:Nat):Int))).map rC)) ?_ ?_
  .exact ⟨zSi,zSi,zS1 hS,zSi,.inl zSi⟩
  rintro k U hk ⟨e2,e3,e4,t,ho⟩;by_cases a4:k<N
  .have w1:qp.wrap ((k:Int)+1+1)=(k:Int)+1+1:=zWr
   have n1:(k:Int)+1<=N:=zOm;have n4:(k:Int)+1<=4:=zOm;simp[go_sem,e4,t,hS,n1,n4];refine qz.ownB (e:=117) (sz:=3) (bt:=24) (zv := .agg [aI 0,aI 0,aI 0]) (xs:=((qu k).map fun k:Nat=>((-1:Int),(0:Int),((k+1:Nat):Int))).map rC) (ys:=[rC ((-1:Int),(0:Int),((k+1:Nat):Int))]) zSi zSi zSi rfl rfl zOm zOm ho (by simp[qD]) (uU _) (uU [_]) zSo ?_;intro P R a7 _ _ _;simp[go_sem,t,w1,n1,n4]
   try refine⟨a4,aK ?_⟩
   try refine aK ?_
   refine⟨zS1 e2,zS1 e3,zS2 e4 hS,zSi,?_⟩;rw[List.range_succ,zb,zb];simpa[go_sem] using a7
  .obtain rfl:N=k:=by omega
   have n1:¬(N:Int)+1<=N:=zOm;have HO:Own U.mu 3 (U.tm 7) ((jC N).map rC):=by unfold jC;rw[if_pos h1];exact ho
   simp[go_sem,e2,e4,t,hS,n1];refine fR a6 (.zk (jr _) .nil) ?_;refine kL N (fun k U=>U.tm 3 = .ip (cTS ts)/\U.tm 4 = .ip [lI sc.sC,aI sc.sN]/\U.tm 9=lP F/\U.tm 10=aI k/\Own U.mu 3 (U.tm 7) ((jC N++chs (vsT ts) F k).map rC)) ?_ ?_
   .exact ⟨zS1 e3,zS2 e4 hS,zSi,zSi,by simpa[go_sem,chs] using HO⟩
   rintro k U hk ⟨e3,e4,t,I,ho⟩;by_cases a4:k<N
   .have w1:=zWk k
    have n4:(k:Int)<4:=zOm;have ah:=UR (vsT ts) F k;have ae:k*F.length<=4*100000:=Nat.mul_le_mul zOm ab;simp[go_sem,e4,t,I,hS,a4,n4,ad];refine kL F.length (fun j st2=>st2.tm 3 = .ip (cTS ts)/\st2.tm 4 = .ip [lI sc.sC,aI sc.sN]/\st2.tm 9=lP F/\st2.tm 10=aI k/\st2.tm 11=aI j/\Own st2.mu 3 (st2.tm 7) ((jC N++chs (vsT ts) F k++chA (vsT ts) k (F.take j)).map rC)) ?_ ?_
    .exact ⟨zS1 e3,zS1 e4,zS1 t,zS1 I,zSi,by simpa[go_sem,chA] using ho⟩
    clear e3 e4 t I ho;rintro j st2 hj ⟨e3,e4,t,I,o,a2⟩;by_cases l:j<F.length
    .have w2:=zWk j
     have hm:=a8 _ (qs l);obtain⟨f,hf⟩:=Int.eq_ofNat_of_zero_le (show 0<=F[j].1 by have:=hm.1;simpa using this);have p:f<ts.sA.length:=by have:=hm.2;rw[hf]at this;simp at this;omega
     have a0:0<=F[j].1:=zOm;have a1:F[j].1.toNat=f:=zOm;have J:F[j].1<ts.sA.length:=zOm;have aa:(vsT ts).getD F[j].1.toNat true=ts.sA[f].var:=by rw[hf,Int.toNat_natCast,zG,zj,qA p];rfl
     have ai:=UQ (vsT ts) k (F.take j);have aj:=List.length_take_le j F;have hs:=KJ (vsT ts) k F j l;rw[aa]at hs;have a3:∀(K:AV->Mu->Prop),(∀ P R,Own R 3 P ((jC N++chs (vsT ts) F k++(chA (vsT ts) k (F.take j)++[((k:Int),F[j].1,F[j].2)])).map rC)->K P R)->qz qe st2.mu #[81,81] (st2.tm 7) (.lst true [[aI k,aI F[j].1,aI F[j].2]]) K:=fun K hK=>by
      refine qz.ownB (e:=117) (sz:=3) (bt:=24) (zv := .agg [aI 0,aI 0,aI 0]) (xs:=(jC N++chs (vsT ts) F k++chA (vsT ts) k (F.take j)).map rC) (ys:=[rC ((k:Int),F[j].1,F[j].2)]) zSi zSi zSi rfl rfl zOm zOm a2 (by simp[qD]) (uU _) (uU [_]) (by simp only[zF,za,List.length_singleton];have:=a9;omega) ?_;intro P R a7 _ _ _;exact hK P R (by rw[<-zt,zb (l₂:=[_])];exact a7)
     by_cases hc:(decide (k=0)||ts.sA[f].var)=true
     .rw [if_pos hc]at hs
      by_cases C:k=0
      .subst C
       simp[go_sem,t,I,o,l];refine cH zKr ?_;simp[go_sem,t,I,o,l];refine cH zKr ?_;simp[go_sem,t,I,o,l];refine a3 _ fun P R h1=>?_
       simp[go_sem,o,l,w2]
       try refine⟨l,aK ?_⟩
       try refine aK ?_
       refine⟨zS1 e3,zS1 e4,zS1 t,zS1 I,zSi,?_⟩;rw[hs];simpa[go_sem] using h1
      .have hv:ts.sA[f].var=true:=by simpa[C] using hc
       simp[go_sem,e3,t,I,o,l,C,a0,a1,J,p,hv];refine cH zKr ?_;simp[go_sem,e3,t,I,o,l,C,a0,a1,J,p,hv];refine cH zKr ?_;simp[go_sem,e3,t,I,o,l,C,a0,a1,J,p,hv];refine a3 _ fun P R h1=>?_
       simp[go_sem,o,l,w2]
       try refine⟨l,aK ?_⟩
       try refine aK ?_
       refine⟨zS1 e3,zS1 e4,zS1 t,zS1 I,zSi,?_⟩;rw[hs];simpa[go_sem] using h1
     .rw [if_neg hc,zO]at hs
      have C:¬k=0:=fun h=>hc (zP1 h)
      have hv:ts.sA[f].var=false:=by simpa[C] using hc
      simp[go_sem,e3,t,I,o,l,C,a0,a1,J,p,hv,w2];refine cH zKr ?_;simp[go_sem,e3,t,I,o,l,C,a0,a1,J,p,hv,w2]
      try refine⟨l,aK ?_⟩
      try refine aK ?_
      refine⟨zS1 e3,zS1 e4,zS1 t,zS1 I,zSi,?_⟩;rw[hs];simpa[go_sem] using a2
    .have a5:j=F.length:=by omega
     subst a5;rw[qP]at a2;simp[go_sem,t,I,o,w1]
     try refine⟨a4,aK ?_⟩
     try refine aK ?_
     refine⟨zS1 e3,zS1 e4,zS1 t,zSi,?_⟩;rw[UP,<-zt];simpa[go_sem] using a2
   .have a5:k=N:=by omega
    subst a5;simp[go_sem,e4,I,hS];exact Own.rd ho (uU _).ok fun r hr c hc=>by
     obtain⟨n,_,rfl⟩:=qn.1 hr;simp at hc;rcases hc with rfl|rfl|rfl<;>exact HF.sc _
 .refine qSV call28 func28 rfl ?_
  have n1:¬(1:Int)<N:=zOm;simp[go_sem,hS,h1,n1];have HO:Own [] 3 (.lst true []) ((jC N).map rC):=by unfold jC;rw[if_neg h1];exact .inl zSp
  refine fR a6 (.zk (jr _) .nil) ?_;refine kL N (fun k U=>U.tm 3 = .ip (cTS ts)/\U.tm 4 = .ip [lI sc.sC,aI sc.sN]/\U.tm 9=lP F/\U.tm 10=aI k/\Own U.mu 3 (U.tm 7) ((jC N++chs (vsT ts) F k).map rC)) ?_ ?_
  .exact ⟨zSi,zS1 hS,zSi,zSi,by simpa[go_sem,chs] using HO⟩
  rintro k U hk ⟨e3,e4,t,I,ho⟩;by_cases a4:k<N
  .have w1:=zWk k
   have n4:(k:Int)<4:=zOm;have ah:=UR (vsT ts) F k;have ae:k*F.length<=4*100000:=Nat.mul_le_mul zOm ab;simp[go_sem,e4,t,I,hS,a4,n4,ad];refine kL F.length (fun j st2=>st2.tm 3 = .ip (cTS ts)/\st2.tm 4 = .ip [lI sc.sC,aI sc.sN]/\st2.tm 9=lP F/\st2.tm 10=aI k/\st2.tm 11=aI j/\Own st2.mu 3 (st2.tm 7) ((jC N++chs (vsT ts) F k++chA (vsT ts) k (F.take j)).map rC)) ?_ ?_
   .exact ⟨zS1 e3,zS1 e4,zS1 t,zS1 I,zSi,by simpa[go_sem,chA] using ho⟩
   clear e3 e4 t I ho;rintro j st2 hj ⟨e3,e4,t,I,o,a2⟩;by_cases l:j<F.length
   .have w2:=zWk j
    have hm:=a8 _ (qs l);obtain⟨f,hf⟩:=Int.eq_ofNat_of_zero_le (show 0<=F[j].1 by have:=hm.1;simpa using this);have p:f<ts.sA.length:=by have:=hm.2;rw[hf]at this;simp at this;omega
    have a0:0<=F[j].1:=zOm;have a1:F[j].1.toNat=f:=zOm;have J:F[j].1<ts.sA.length:=zOm;have aa:(vsT ts).getD F[j].1.toNat true=ts.sA[f].var:=by rw[hf,Int.toNat_natCast,zG,zj,qA p];rfl
    have ai:=UQ (vsT ts) k (F.take j);have aj:=List.length_take_le j F;have hs:=KJ (vsT ts) k F j l;rw[aa]at hs;have a3:∀(K:AV->Mu->Prop),(∀ P R,Own R 3 P ((jC N++chs (vsT ts) F k++(chA (vsT ts) k (F.take j)++[((k:Int),F[j].1,F[j].2)])).map rC)->K P R)->qz qe st2.mu #[81,81] (st2.tm 7) (.lst true [[aI k,aI F[j].1,aI F[j].2]]) K:=fun K hK=>by
     refine qz.ownB (e:=117) (sz:=3) (bt:=24) (zv := .agg [aI 0,aI 0,aI 0]) (xs:=(jC N++chs (vsT ts) F k++chA (vsT ts) k (F.take j)).map rC) (ys:=[rC ((k:Int),F[j].1,F[j].2)]) zSi zSi zSi rfl rfl zOm zOm a2 (by simp[qD]) (uU _) (uU [_]) (by simp only[zF,za,List.length_singleton];have:=a9;omega) ?_;intro P R a7 _ _ _;exact hK P R (by rw[<-zt,zb (l₂:=[_])];exact a7)
    by_cases hc:(decide (k=0)||ts.sA[f].var)=true
    .rw [if_pos hc]at hs
     by_cases C:k=0
     .subst C
      simp[go_sem,t,I,o,l];refine cH zKr ?_;simp[go_sem,t,I,o,l];refine cH zKr ?_;simp[go_sem,t,I,o,l];refine a3 _ fun P R h1=>?_
      simp[go_sem,o,l,w2]
      try refine⟨l,aK ?_⟩
      try refine aK ?_
      refine⟨zS1 e3,zS1 e4,zS1 t,zS1 I,zSi,?_⟩;rw[hs];simpa[go_sem] using h1
     .have hv:ts.sA[f].var=true:=by simpa[C] using hc
      simp[go_sem,e3,t,I,o,l,C,a0,a1,J,p,hv];refine cH zKr ?_;simp[go_sem,e3,t,I,o,l,C,a0,a1,J,p,hv];refine cH zKr ?_;simp[go_sem,e3,t,I,o,l,C,a0,a1,J,p,hv];refine a3 _ fun P R h1=>?_
      simp[go_sem,o,l,w2]
      try refine⟨l,aK ?_⟩
      try refine aK ?_
      refine⟨zS1 e3,zS1 e4,zS1 t,zS1 I,zSi,?_⟩;rw[hs];simpa[go_sem] using h1
    .rw [if_neg hc,zO]at hs
     have C:¬k=0:=fun h=>hc (zP1 h)
     have hv:ts.sA[f].var=false:=by simpa[C] using hc
     simp[go_sem,e3,t,I,o,l,C,a0,a1,J,p,hv,w2];refine cH zKr ?_;simp[go_sem,e3,t,I,o,l,C,a0,a1,J,p,hv,w2]
     try refine⟨l,aK ?_⟩
     try refine aK ?_
     refine⟨zS1 e3,zS1 e4,zS1 t,zS1 I,zSi,?_⟩;rw[hs];simpa[go_sem] using a2
   .have a5:j=F.length:=by omega
    subst a5;rw[qP]at a2;simp[go_sem,t,I,o,w1]
    try refine⟨a4,aK ?_⟩
    try refine aK ?_
    refine⟨zS1 e3,zS1 e4,zS1 t,zSi,?_⟩;rw[UP,<-zt];simpa[go_sem] using a2
  .have a5:k=N:=by omega
   subst a5;simp[go_sem,e4,I,hS];exact Own.rd ho (uU _).ok fun r hr c hc=>by
    obtain⟨n,_,rfl⟩:=qn.1 hr;simp at hc;rcases hc with rfl|rfl|rfl<;>exact HF.sc _
end I1
namespace W41
open Y1 YF P1 E3 GD GN GS
abbrev u8(x:Int):AV := .sc (.int .u8 x)
abbrev lRaw(r:List (List Int)):AV := .lst false (r.map fun l=>[.lst false (l.map fun x=>[u8 x])])
abbrev vM(ts:TS)(sc:Sc)(raw:List (List Int))(n:Nd)(g:List (List Bool))(lp:Int):List AV:=cTS ts++([lI sc.sC,aI sc.sN,lRaw raw]++(cNd n++[lBB g,u8 lp]))
theorem k8{m}(h:SmS m.sK)(j:m.sc.sC.length<=1000):smMd m:=
 ⟨zOm,zW1 h.n,fun s g=>zW1 (h.f s g),fun s g r i=>zW1 ((h.t s g r i).1)⟩
end W41
namespace I2
open YF P1 EO EP EQ F4 GF G5 GR GS GW HE W41
theorem qs0(ts sc)(F:Fit9 ts sc):qE qe 18 [eTS ts,eSc sc] [] (fun e m=>∃ av,e = .ret av/\Own m 4 av (ts.sA.map (rowD sc))/\(0<ts.sA.length->∃ b,qo av=some b)):=by
 have a1:=F.nf;refine qSW call18 func18 rfl {} ?_;simp[go_sem];refine kL ts.sA.length (fun k U=>U.tm 2 = .ip (cTS ts)/\U.tm 3 = .ip [lI sc.sC,aI sc.sN]/\U.tm 6=aI k/\Own U.mu 4 (U.tm 5) ((ts.sA.take k).map (rowD sc))/\(0<k->∃ b,qo (U.tm 5)=some b)) ?_ ?_
 .exact ⟨zSi,zSi,zSi,.inl zSi,fun h=>absurd h zOm⟩
 rintro k U hk ⟨t,e3,C,I,J⟩;by_cases l:k<ts.sA.length
 .have w1:=zWk k
  have o:=qs l;have r:=mM sc F.g F.p ts.sA[k].sS (F.f1 _ o).1 (F.f1 _ o).2 (F.fs _ o);simp[go_sem,t,C,l];refine cH zKr ?_;simp[go_sem,t,e3,C,l];refine fR r (.zk (zr _) (.zk (zh _) .nil)) ?_;refine .inl (j6.ownB (e:=98) (sz:=4) (bt:=64) (zv := .agg [aI 0,.lst true [],aI 0,.lst true []]) (xs:=(ts.sA.take k).map (rowD sc)) (ys:=[rowD sc ts.sA[k]]) zSi zSi zSi rfl rfl zOm zOm I (by simp[qD,rowD]) (Va sc _) (Va sc [_]) zSo ?_);intro a2 j P _ _ _ R;simp[go_sem,C,l,w1];refine aK ⟨zS1 t,zS1 e3,zSi,?_,fun _=>by simp[go_sem];exact R zSp⟩;rw[yj l,zb];simpa[go_sem] using P
 .have a0:k=ts.sA.length:=by omega
  subst a0;rw[qP]at I;simp[go_sem,t,C];exact⟨I,J⟩
def jZ(ts:TS)(sc:Sc)(raw:List (List Int))(k:Nat):List (List AV):=((z8 ts sc raw).take k).map cBd++(ts.sA.drop k).map (rowD sc)
theorem qs1(ts sc raw k)(h:k<=ts.sA.length):(jZ ts sc raw k).length=ts.sA.length:=by
 simp[jZ,Qt];omega
theorem qs2(ts sc raw k):yM 4 (jZ ts sc raw k):=fun r g=>by
 rcases qK.1 g with h|h
 .obtain ⟨x,_,rfl⟩:=qn.1 h;rfl
 .obtain ⟨x,_,rfl⟩:=qn.1 h;rfl
theorem qs3(ts sc raw k h):(jZ ts sc raw k)[k]?=some (rowD sc ts.sA[k]):=by
 have g:(((z8 ts sc raw).take k).map cBd).length=k:=by simp[Qt];omega
 simp_all[jZ,zJ,Nat.sub_self,zj,List.getElem?_drop,Nat.add_zero,qA]
theorem qs4(ts sc raw k h):(jZ ts sc raw k).set k (cBd ((z8 ts sc raw)[k]'(by rw[Qt];exact h)))=jZ ts sc raw (k+1):=by
 have g:(((z8 ts sc raw).take k).map cBd).length=k:=by simp[Qt];omega
 have i:k<(z8 ts sc raw).length:=by rw[Qt];exact h
 unfold jZ;rw[List.set_append_right _ _ zOm,g,Nat.sub_self,zp h,zQ,List.set_cons_zero,yj i,zb,zt];rfl
theorem cY{Q i d d' L x x' st}(o:d≠d')(l:Rd (cutM (fun j=>decide (L<=j)) st.mu 0) (st.tm d) x)(g:Rd (cutM (fun j=>decide (L<=j)) st.mu 0) (st.tm d') x')
  (k:Q (.exit i) ((st.put (some d) x st.mu).put (some d') x' (cutM (fun j=>!decide (L<=j)) st.mu 0))):FzQ Q (.exit i) st:=by
 refine⟨_,⟨fun j=>decide (L<=j),rfl,fun j=>?_⟩,trivial,k⟩;simp only[St.put];split
 .rename_i h;subst h;exact .rd _ _ g
 .split
  .rename_i h;subst h;exact .rd _ _ l
  .exact .same _
theorem k9{sz}:∀{xs},yM sz xs->∀ i h j,j<sz->xs.flatten[i*sz+j]?=xs[i][j]?
 | [],_,i,h,j,l=>absurd h (Nat.not_lt_zero i)
 |r :: xs,w,i,h,j,l=>by
  have g:r.length=sz:=w r zSp;rw[List.flatten_cons];cases i with
  |zero=>grind
  |succ i =>
   rw[zJ (by grind),g,show (i+1)*sz+j-sz=i*sz+j by rw[Nat.succ_mul];omega];exact k9 (fun r g=>w r (zP1 g)) i (zUs h) j l
theorem Own.same{sz mu mu' av xs}(h:Own mu sz av xs)(g:∀ b,qo av=some b->mu'[b]?=mu[b]?):Own mu' sz av xs:=by
 rcases h with rfl|⟨b,rfl,i⟩
 .exact .inl rfl
 .exact .inr ⟨b,rfl,by rw[g b rfl];exact i⟩
theorem qs5(ts sc)(F:Fit9 ts sc)(raw)(hr:∀ l,l∈raw->∀ x,x∈l->0<=x/\x<=255):qi qe 27 [eTS ts,eSc sc,lRaw raw] (lBd (z8 ts sc raw)):=by
 have cg:=F.nf;have b3:=qs0 ts sc F;have an:=Qt ts sc raw;refine qSU call27 func27 rfl ?_;refine fQ b3 ?_ (by grind);rintro r m ⟨t,h,ch,bc⟩;cases h;simp[go_sem];refine kL ts.sA.length (fun k st=>st.tm 2=lRaw raw/\st.tm 7=r/\st.tm 8=aI k/\Own st.mu 4 r (jZ ts sc raw k)) ?_ ?_
 .simp_all [go_sem,jZ]
 rintro k st hk ⟨e2,e7,e8,ho⟩;have b4:=qs1 ts sc raw k hk;have ag:=qs2 ts sc raw k;by_cases a9:k<ts.sA.length
 .have w1:=zWk k
  have ao:=qs3 ts sc raw k a9;obtain⟨BK,cj,be⟩:∃ BK,(z8 ts sc raw)[k]?=some BK/\BK=Wr (raw.getD k []) ⟨⟨ts.sA[k].sS.length,[]⟩,⟨ts.sA[k].sS.length,yE sc ts.sA[k].sS⟩⟩:=⟨_,qA zOm,Ws ts sc raw k zOm a9⟩;have ai:(jZ ts sc raw k).set k (cBd BK)=jZ ts sc raw (k+1):=by
   grind [qs4,qk]
  have ck:=qbP sc F.g ts.sA[k].sS (F.f1 _ (qs a9)).2;generalize hW:jZ ts sc raw k=W at ho b4 ag ao ai;obtain⟨B,hB⟩:=bc zOm;rcases ho with h|⟨B',h,hc⟩
  .rw [h]at hB;cases hB
  .rw [h]at hB;cases hB
   have bg:W.flatten.length=W.length*4:=by rw[yL ag]
   have bi:=(qk.1 hc).1;have cl:W.flatten[k*4+2]?=some (aI ts.sA[k].sS.length):=by
    have:=k9 ag k zOm 2 zOm;rw[this,(qk.1 ao).2];rfl
   have cm:W.flatten[k*4+3]?=some (lI (yE sc ts.sA[k].sS)):=by
    have:=k9 ag k zOm 3 zOm;rw[this,(qk.1 ao).2];rfl
   have b5:=fun x:List AV=>Jq W k x ag
   have cn:=bg;generalize cp:(ts.sA[k].sS.length:Int)=o at *
   generalize cq:yE sc ts.sA[k].sS=U at *
   generalize bj:raw.getD k []=rw at *
   generalize cr:W.flatten=FL at *
   have bk:(FL.drop (k*4+2)).take 2=[aI o,lI U]:=by
    grind [qk,zp]
   simp[go_sem,e7,e8,h,b4,a9,hc];refine cL (.agg [aI o,lI U]) (by rw[if_pos zOm,bk]) ?_;simp[go_sem];generalize hR:st.mu.length=R at *
   refine fB U.length (fun j=>Keep (fun st2=>st2.tm 2=lRaw raw/\st2.tm 7=r/\st2.tm 8=aI k/\st2.tm 9 = .ptr R 0/\st2.tm 10 = .ptr (R+1) 0/\st2.tm 11 = .ptr (R+2) 0/\st2.tm 12=aI j/\∃ p a0,st2.mu[R]?=some (.arr [aI o,lI U])/\st2.mu[R+1]?=some (.arr [aI o,p])/\st2.mu[R+2]?=some (.arr [aI o,a0]) /\
    Own st2.mu 1 p ((selW (fun x=>decide (1<x)) rw (U.take j) 0).map rI)/\Own st2.mu 1 a0 ((selW (fun x=>decide (0<x)) rw (U.take j) 0).map rI)/\(∀ b,qo p=some b->R+3<=b)/\(∀ b,qo a0=some b->R+3<=b)/\(∀ b,qo p=some b->qo a0≠some b)/\∀ i,i<R->st2.mu[i]?=st.mu[i]?) .mk) ?_ ?_
   .exact aK ⟨zS1 e2,zS1 e7,zS1 e8,zSi,zSi,zSi,zSi,.lst true [],.lst true [],zS1 hR,zS1 hR,zS1 hR,.inl (by simp[selW]),.inl (by simp[selW]),by simp[qo],by simp[qo],by simp[qo],fun i hi=>by simp_all[go_sem,List.getElem?_append_left]⟩
   rintro j st2 hj ⟨f2,f7,f8,f9,f10,f11,f12,p,a0,c9,c10,c11,ol,oh,bl,bh,nb,low⟩;by_cases I:j<U.length
   .skip
    have w2:=zWk j;have aq:=qe2 (fun x=>decide (1<x)) rw U j I;have au:=qe2 (fun x=>decide (0<x)) rw U j I;by_cases aa:k<raw.length
    .have bm:rw=raw[k]:=by grind
     by_cases ab:j<raw[k].length
     .have cs:=hr _ (qs aa) _ (qs ab)
      have hx:(raw[k][j]).tmod 4=wtR rw j:=by
       simp_all[Int.tmod_eq_emod_of_nonneg,wtR,if_pos,zG,qA]
      have ct:0<=wtR rw j/\wtR rw j<4:=by grind
      generalize hw:wtR rw j=w at *
      rcases (show w=0\/w=1\/1<w by omega) with bn|a5|aw
      .rw [bn]at hx
       have sl:selW (fun x=>decide (1<x)) rw (U.take (j+1)) 0=selW (fun x=>decide (1<x)) rw (U.take j) 0:=by grind
       have sh:selW (fun x=>decide (0<x)) rw (U.take (j+1)) 0=selW (fun x=>decide (0<x)) rw (U.take j) 0:=by grind
       simp[go_sem,f2,f8,f9,f12,c9,I,w2,aa,ab,hx];simp_all[go_sem,aK]
      .rw [a5]at hx
       have sl:selW (fun x=>decide (1<x)) rw (U.take (j+1)) 0=selW (fun x=>decide (1<x)) rw (U.take j) 0:=by grind
       have sh:selW (fun x=>decide (0<x)) rw (U.take (j+1)) 0=selW (fun x=>decide (0<x)) rw (U.take j) 0++[U[j]]:=by grind
       simp[go_sem,f2,f8,f9,f12,c9,I,aa,ab,hx];refine cH zKr ?_;simp[go_sem,f9,f11,f12,c9,c11,I];refine qz.ownB (e:=3) (sz:=1) (bt:=8) (zv:=aI 0) (xs:=(selW (fun x=>decide (0<x)) rw (U.take j) 0).map rI) (ys:=[rI U[j]]) zSi zSi zSi rfl rfl zOm zOm oh (by simp[qD]) (yv _) (yv [_]) (by grind [wK,decide,List.length_take_le]) ?_;intro J mh P C a1 ax;have d9:mh[R]?=some (.arr [aI o,lI U]):=by grind
       have d10:mh[R+1]?=some (.arr [aI o,p]):=by grind
       have d11:mh[R+2]?=some (.arr [aI o,a0]):=by grind
       have ad:=(qk.1 d11).1;have aj:=(qk.1 c11).1;have a6:Own mh 1 p ((selW (fun x=>decide (1<x)) rw (U.take j) 0).map rI):=Own.same ol fun b hb=>C b (Own.lt ol hb) (nb b hb)
       have ae:=Own.set a6 (i:=R+2) (.arr [aI o,J]) (fun h=>by grind);have a4:=Own.set P (i:=R+2) (.arr [aI o,J]) (fun h=>by grind);have a7:∀ b,qo J=some b->R+3<=b:=fun b h=>by grind
       have af:∀ b,qo p=some b->qo J≠some b:=fun b h h2=>by grind [Own.lt]
       have a2:∀ i,i<R->(mh.set (R+2) (.arr [aI o,J]))[i]?=st.mu[i]?:=fun i hi=>by
        rw[zGl,C i zOm (fun h=>zW1 (bh i h))];exact low i hi
       simp[go_sem,f11,f12,d11,I,w2,Own.one P,Own.cells P];simp_all[go_sem,aK,zb]
      .skip
       have ay:0<w:=zOm;have sl:selW (fun x=>decide (1<x)) rw (U.take (j+1)) 0=selW (fun x=>decide (1<x)) rw (U.take j) 0++[U[j]]:=by simpa[aw] using aq
       have sh:selW (fun x=>decide (0<x)) rw (U.take (j+1)) 0=selW (fun x=>decide (0<x)) rw (U.take j) 0++[U[j]]:=by simpa[ay] using au
       simp[go_sem,f2,f8,f9,f12,c9,I,ay,aw,aa,ab,hx];refine cH zKr ?_;simp[go_sem,f9,f11,f12,c9,c11,I];refine qz.ownB (e:=3) (sz:=1) (bt:=8) (zv:=aI 0) (xs:=(selW (fun x=>decide (0<x)) rw (U.take j) 0).map rI) (ys:=[rI U[j]]) zSi zSi zSi rfl rfl zOm zOm oh (by simp[qD]) (yv _) (yv [_]) (by have:=(wK (fun x=>decide (0<x)) rw (U.take j) 0).length_le;have:=List.length_take_le j U;simp;omega) ?_;intro J mh P C a1 ax;have d9:mh[R]?=some (.arr [aI o,lI U]):=by rw[C R (qk.1 c9).1 (fun h=>zW1 (bh R h))];exact c9
       have d10:mh[R+1]?=some (.arr [aI o,p]):=by rw[C (R+1) (qk.1 c10).1 (fun h=>zW1 (bh _ h))];exact c10
       have d11:mh[R+2]?=some (.arr [aI o,a0]):=by rw[C (R+2) (qk.1 c11).1 (fun h=>zW1 (bh _ h))];exact c11
       have ad:=(qk.1 d11).1;have aj:=(qk.1 c11).1;have a6:Own mh 1 p ((selW (fun x=>decide (1<x)) rw (U.take j) 0).map rI):=Own.same ol fun b hb=>C b (Own.lt ol hb) (nb b hb)
       have ae:=Own.set a6 (i:=R+2) (.arr [aI o,J]) (fun h=>zW1 (bl _ h));have a4:=Own.set P (i:=R+2) (.arr [aI o,J]) (fun h=>zW1 (a1 _ h));have a7:∀ b,qo J=some b->R+3<=b:=fun b h=>zW1 (a1 b h)
       have af:∀ b,qo p=some b->qo J≠some b:=fun b h h2=>zW2 (a1 b h2) (Own.lt ol h)
       have a2:∀ i,i<R->(mh.set (R+2) (.arr [aI o,J]))[i]?=st.mu[i]?:=fun i hi=>by
        rw[zGl,C i zOm (fun h=>zW1 (bh i h))];exact low i hi
       simp[go_sem,f11,d11,ay,aw,Own.one P,Own.cells P];refine cH zKr ?_;have e9:(mh.set (R+2) (.arr [aI o,J]))[R]?=some (.arr [aI o,lI U]):=by rw[zGl];exact d9
       have az:(mh.set (R+2) (.arr [aI o,J]))[R+1]?=some (.arr [aI o,p]):=by rw[zGl];exact d10
       have b0:(mh.set (R+2) (.arr [aI o,J]))[R+2]?=some (.arr [aI o,J]):=qM ad;generalize cu:mh.set (R+2) (.arr [aI o,J])=M2 at *
       simp[go_sem,f9,f10,f12,e9,az,I];refine qz.ownB (e:=3) (sz:=1) (bt:=8) (zv:=aI 0) (xs:=(selW (fun x=>decide (1<x)) rw (U.take j) 0).map rI) (ys:=[rI U[j]]) zSi zSi zSi rfl rfl zOm zOm ae (by simp[qD]) (yv _) (yv [_]) (by have:=(wK (fun x=>decide (1<x)) rw (U.take j) 0).length_le;have:=List.length_take_le j U;simp;omega) ?_;intro al ml b1 ak b2 cv;have g9:ml[R]?=some (.arr [aI o,lI U]):=by rw[ak R (qk.1 e9).1 (fun h=>zW1 (bl R h))];exact e9
       have b6:ml[R+1]?=some (.arr [aI o,p]):=by rw[ak (R+1) (qk.1 az).1 (fun h=>zW1 (bl _ h))];exact az
       have bo:ml[R+2]?=some (.arr [aI o,J]):=by rw[ak (R+2) (qk.1 b0).1 (fun h=>zW1 (bl _ h))];exact b0
       have l10:=(qk.1 b6).1;have cf:=(qk.1 b0).1;have bq:Own ml 1 J ((selW (fun x=>decide (0<x)) rw (U.take j) 0++[U[j]]).map rI):=by
        rw[zb];exact Own.same a4 fun b hb=>ak b (Own.lt a4 hb) (fun h=>af b h hb)
       have br:=Own.set b1 (i:=R+1) (.arr [aI o,al]) (fun h=>zW1 (b2 _ h));have bs:=Own.set bq (i:=R+1) (.arr [aI o,al]) (fun h=>zW1 (a7 _ h));simp[go_sem,f10,f12,b6,I,w2,Own.one b1,Own.cells b1]
       try refine⟨I,aK ?_⟩
       try refine aK ?_
       refine⟨zS1 f2,zS1 f7,zS1 f8,zS1 f9,zS1 f10,zS1 f11,zSi,al,J,by simp[go_sem];exact g9,zS1 l10,by simp[go_sem];exact bo,by rw[sl,zb];simpa[go_sem] using br,by rw[sh];simpa[go_sem] using bs,fun b h=>zW1 (b2 b h),a7,fun b h h2=>zW2 (b2 b h) (Own.lt a4 h2),fun i hi=>?_⟩;simp[go_sem];rw[zGl,ak i zOm (fun h=>zW1 (bl i h))];exact a2 i hi
     .have a5:wtR rw j=1:=by rw[wtR,bm,if_neg ab]
      have sl:selW (fun x=>decide (1<x)) rw (U.take (j+1)) 0=selW (fun x=>decide (1<x)) rw (U.take j) 0:=by simpa[a5] using aq
      have sh:selW (fun x=>decide (0<x)) rw (U.take (j+1)) 0=selW (fun x=>decide (0<x)) rw (U.take j) 0++[U[j]]:=by simpa[a5] using au
      simp[go_sem,f2,f8,f9,f12,c9,I,aa,ab];refine cH zKr ?_;simp[go_sem,f9,f11,f12,c9,c11,I];refine qz.ownB (e:=3) (sz:=1) (bt:=8) (zv:=aI 0) (xs:=(selW (fun x=>decide (0<x)) rw (U.take j) 0).map rI) (ys:=[rI U[j]]) zSi zSi zSi rfl rfl zOm zOm oh (by simp[qD]) (yv _) (yv [_]) (by have:=(wK (fun x=>decide (0<x)) rw (U.take j) 0).length_le;have:=List.length_take_le j U;simp;omega) ?_;intro J mh P C a1 ax;have d9:mh[R]?=some (.arr [aI o,lI U]):=by rw[C R (qk.1 c9).1 (fun h=>zW1 (bh R h))];exact c9
      have d10:mh[R+1]?=some (.arr [aI o,p]):=by rw[C (R+1) (qk.1 c10).1 (fun h=>zW1 (bh _ h))];exact c10
      have d11:mh[R+2]?=some (.arr [aI o,a0]):=by rw[C (R+2) (qk.1 c11).1 (fun h=>zW1 (bh _ h))];exact c11
      have ad:=(qk.1 d11).1;have aj:=(qk.1 c11).1;have a6:Own mh 1 p ((selW (fun x=>decide (1<x)) rw (U.take j) 0).map rI):=Own.same ol fun b hb=>C b (Own.lt ol hb) (nb b hb)
      have ae:=Own.set a6 (i:=R+2) (.arr [aI o,J]) (fun h=>zW1 (bl _ h));have a4:=Own.set P (i:=R+2) (.arr [aI o,J]) (fun h=>zW1 (a1 _ h));have a7:∀ b,qo J=some b->R+3<=b:=fun b h=>zW1 (a1 b h)
      have af:∀ b,qo p=some b->qo J≠some b:=fun b h h2=>zW2 (a1 b h2) (Own.lt ol h)
      have a2:∀ i,i<R->(mh.set (R+2) (.arr [aI o,J]))[i]?=st.mu[i]?:=fun i hi=>by
       rw[zGl,C i zOm (fun h=>zW1 (bh i h))];exact low i hi
      simp[go_sem,f11,f12,d11,I,w2,Own.one P,Own.cells P]
      try refine⟨I,aK ?_⟩
      try refine aK ?_
      refine⟨zS1 f2,zS1 f7,zS1 f8,zS1 f9,zS1 f10,zS1 f11,zSi,p,J,by simp[go_sem];exact d9,by simp[go_sem];exact d10,zS1 ad,by rw[sl];simpa[go_sem] using ae,by rw[sh,zb];simpa[go_sem] using a4,bl,a7,af,by simpa[go_sem] using a2⟩
    .have a5:wtR rw j=1:=by
      have:rw=[]:=by rw[<-bj,zG,List.getElem?_eq_none zOm];rfl
      rw[wtR,this];rfl
     have sl:selW (fun x=>decide (1<x)) rw (U.take (j+1)) 0=selW (fun x=>decide (1<x)) rw (U.take j) 0:=by simpa[a5] using aq
     have sh:selW (fun x=>decide (0<x)) rw (U.take (j+1)) 0=selW (fun x=>decide (0<x)) rw (U.take j) 0++[U[j]]:=by simpa[a5] using au
     simp[go_sem,f2,f8,f9,f12,c9,I,aa];refine cH zKr ?_;simp[go_sem,f9,f11,f12,c9,c11,I];refine qz.ownB (e:=3) (sz:=1) (bt:=8) (zv:=aI 0) (xs:=(selW (fun x=>decide (0<x)) rw (U.take j) 0).map rI) (ys:=[rI U[j]]) zSi zSi zSi rfl rfl zOm zOm oh (by simp[qD]) (yv _) (yv [_]) (by have:=(wK (fun x=>decide (0<x)) rw (U.take j) 0).length_le;have:=List.length_take_le j U;simp;omega) ?_;intro J mh P C a1 ax;have d9:mh[R]?=some (.arr [aI o,lI U]):=by rw[C R (qk.1 c9).1 (fun h=>zW1 (bh R h))];exact c9
     have d10:mh[R+1]?=some (.arr [aI o,p]):=by rw[C (R+1) (qk.1 c10).1 (fun h=>zW1 (bh _ h))];exact c10
     have d11:mh[R+2]?=some (.arr [aI o,a0]):=by rw[C (R+2) (qk.1 c11).1 (fun h=>zW1 (bh _ h))];exact c11
     have ad:=(qk.1 d11).1;have aj:=(qk.1 c11).1;have a6:Own mh 1 p ((selW (fun x=>decide (1<x)) rw (U.take j) 0).map rI):=Own.same ol fun b hb=>C b (Own.lt ol hb) (nb b hb)
     have ae:=Own.set a6 (i:=R+2) (.arr [aI o,J]) (fun h=>zW1 (bl _ h));have a4:=Own.set P (i:=R+2) (.arr [aI o,J]) (fun h=>zW1 (a1 _ h));have a7:∀ b,qo J=some b->R+3<=b:=fun b h=>zW1 (a1 b h)
     have af:∀ b,qo p=some b->qo J≠some b:=fun b h h2=>zW2 (a1 b h2) (Own.lt ol h)
     have a2:∀ i,i<R->(mh.set (R+2) (.arr [aI o,J]))[i]?=st.mu[i]?:=fun i hi=>by
      rw[zGl,C i zOm (fun h=>zW1 (bh i h))];exact low i hi
     simp[go_sem,f11,f12,d11,I,w2,Own.one P,Own.cells P]
     try refine⟨I,aK ?_⟩
     try refine aK ?_
     refine⟨zS1 f2,zS1 f7,zS1 f8,zS1 f9,zS1 f10,zS1 f11,zSi,p,J,by simp[go_sem];exact d9,by simp[go_sem];exact d10,zS1 ad,by rw[sl];simpa[go_sem] using ae,by rw[sh,zb];simpa[go_sem] using a4,bl,a7,af,by simpa[go_sem] using a2⟩
   .skip
    obtain rfl:U.length=j:=zOm;rw[qP]at ol oh;have cw:R+2<st2.mu.length:=(qk.1 c11).1;have bu:(cutM (fun j=>decide (R<=j)) st2.mu 0)[R+1]?=some (.arr [aI o,p]):=by rw[jG,c10];simp
    have bv:(cutM (fun j=>decide (R<=j)) st2.mu 0)[R+2]?=some (.arr [aI o,a0]):=by rw[jG,c11];simp
    have b7:∀ l:List Int,∀ r,r∈l.map rI->∀ c,c∈r->HF c:=fun l r hr c hc=>by
     obtain⟨x,_,rfl⟩:=qn.1 hr;simp at hc;subst hc;exact HF.sc _
    have bw:Rd (cutM (fun j=>decide (R<=j)) st2.mu 0) p (lI (selW (fun x=>decide (1<x)) rw U 0)):=Own.rd (YP ol fun b hb=>zW1 (bl b hb)) (yv _).ok (b7 _);have ca:Rd (cutM (fun j=>decide (R<=j)) st2.mu 0) a0 (lI (selW (fun x=>decide (0<x)) rw U 0)):=Own.rd (YP oh fun b hb=>zW1 (bh b hb)) (yv _).ok (b7 _);simp[go_sem,f9,f12,c9];refine cY (d:=10) (d':=11) (L:=R) (x := .ip [aI o,lI (selW (fun x=>decide (1<x)) rw U 0)]) (x' := .ip [aI o,lI (selW (fun x=>decide (0<x)) rw U 0)]) zDe ?_ ?_ ?_
    .simp [go_sem,f10]
     refine .ptr (R+1) 0 [aI o,p] _ bu zSp fun k u v hu hv=>?_
     match k with
     | 0=>simp at hu hv;subst hu;subst hv;exact .zsc _
     | 1=>simp at hu hv;subst hu;subst hv;exact bw
     |k+2=>simp at hv
    .simp [go_sem,f11]
     refine .ptr (R+2) 0 [aI o,a0] _ bv zSp fun k u v hu hv=>?_
     match k with
     | 0=>simp at hu hv;subst hu;subst hv;exact .zsc _
     | 1=>simp at hu hv;subst hu;subst hv;exact ca
     |k+2=>simp at hv
    have a8:(cutM (fun j=>!decide (R<=j)) st2.mu 0)[B]?=some (.arr FL):=by
     rw[jG,low B bi,hc];simp[show ¬R<=B by omega]
    have b8:B<(cutM (fun j=>!decide (R<=j)) st2.mu 0).length:=(qk.1 a8).1;generalize b9:cutM (fun j=>!decide (R<=j)) st2.mu 0=CM at *
    simp[go_sem,f7,f8,h,a9,a8,b9];refine cL (.ptr B (k*4)) (if_pos zOm) ?_;have a3:=b5 (cBd BK) rfl zOm;rw[ai,jb _ _ _ zSo]at a3;have cb:cBd BK=[aI o,lI (selW (fun x=>decide (1<x)) rw U 0),aI o,lI (selW (fun x=>decide (0<x)) rw U 0)]:=by rw[be];rfl
    rw[cb]at a3;simp only[zt,List.cons_append,vo,zu,List.length_nil]at a3;have bb:(jZ ts sc raw (k+1)).length=W.length:=by rw[<-ai,List.length_set]
    simp[go_sem,a8,b9];refine cL (CM.set B (.arr (jZ ts sc raw (k+1)).flatten)) (by rw[if_pos zOm,a3]) ?_;simp[go_sem,f2,f7,f8,w1,a9,h];refine aK ⟨zS1 f2,zS1 f7,zSi,.inr ⟨B,?_,?_⟩⟩
    .simp [go_sem,f7,h,bb]
    .simp [go_sem]
     rw[qM b8]
 .have cc:k=ts.sA.length:=by omega
  subst cc;have cd:jZ ts sc raw ts.sA.length=(z8 ts sc raw).map cBd:=by
   rw[jZ,<-an,qP,an,List.drop_length,List.map_nil,zO]
  rw[cd]at ho;simp[go_sem,e7,e8];refine cL (aI (z8 ts sc raw).length) (by rcases ho with h|⟨b,h,_⟩<;>rw[h]<;>simp) ?_;simp[go_sem,an,e7,Own.one ho,Own.cells ho];refine Own.rd ho (fun r hr=>?_) fun r hr=>?_
  .obtain ⟨x,_,rfl⟩:=qn.1 hr;rfl
  .obtain ⟨x,_,rfl⟩:=qn.1 hr;exact KG x
end I2
set_option maxHeartbeats 1000000
namespace IJ
end IJ
set_option maxHeartbeats 1000000
namespace I5
open Y1 Y16 YF P1 Q4 Q8 E1 E3 E4 E9 F1 GD G5 GF GP GQ GR GS GU GV GW HE IB IF IK I1 I2 W41
theorem qfB(raw):HF (lRaw raw):=HF.lst fun r i c g=>by
 obtain⟨l,_,rfl⟩:=qn.1 i;simp at g;subst g;exact HF.lst fun r i c g=>by
  obtain⟨x,_,rfl⟩:=qn.1 i;simp at g;subst g;exact HF.sc _
def tiny(m:Md):Prop:=SmS m.sK/\m.sc.sC.length<=1000
theorem wO(mu):Rd mu (.tup [.lst true [],.agg [.lst true [],aI 0,.lst true [],aI 0],aB false]) (.tup [lBd [],eMd mdZ,aB false]):=by
 refine .tup _ _ rfl fun j u v g i=>?_
 match j with
 | 0=>simp at g i;subst g;subst i;exact .wk _ true _ (.hf _ (HF.lst fun r l=>by simp at l))
 | 1=>grind [qbG]
 | 2=>simp at g i;subst g;subst i;exact .zsc _
 |j+3=>simp at g
theorem qs6(b m):HF (.tup [lBd b,eMd m,aB true]):=HF.tup (by simp only[qy,qH,or_false,forall_eq_or_imp,forall_eq];grind [jr,yx,HF.sc])
abbrev tupM(ts:TS)(sc:Sc)(raw:List (List Int))(g:List (List Bool))(lp:Int)(ok:Bool):AV:=if ok=true then .tup [lBd (z8 ts sc raw),eMd (anyM sc (vsT ts) (defB ts sc) g (lp % sc.sN)),aB true] else .tup [lBd [],eMd mdZ,aB false]
def ok25(ts:TS)(sc:Sc)(raw:List (List Int))(n:Nd):Bool:=yP ts&&(jv ts sc&&(decide (sumI sc.sC<=5)&&(zd n&&(decide (ju ts=[])&&(decide (yi ts [] n=(0,0))&&(Wp ts (sumI sc.sC) sc.sN n&&(decide ((chs (vsT ts) (qQ (z8 ts sc raw) 0) sc.sN.toNat).length<=8))))))))
theorem ok25_cx{ts}(g:bigT ts){sc raw n}(h:ok25 ts sc raw n=true):Cx ts sc (z8 ts sc raw) sc.sN.toNat/\zd n=true/\(yi ts [] n).1=0:=by
 simp only[ok25,qI,decide_eq_true_eq]at h;obtain⟨i,j,l,o,p,r,I,J⟩:=h;have F:=J9 j;have t:=F.s1;have C:yV sc=true:=by
  simp_all[jv,qI]
 refine⟨⟨Wo i g,p,F,C,l,k5 ts sc raw fun f hf=>J0 _ _ _,zOm,?_⟩,o,by rw[r]⟩;omega
def ok29(ts:TS)(sc:Sc)(raw:List (List Int))(n:Nd):Bool:=yP ts&&(jv ts sc&&(zd n&&(decide (sc.sC.length<=4)&&(decide (sumI sc.sC<=5)&&(decide (ju ts=[])&&(decide (yi ts [] n=(0,0))&&(Wp ts (sumI sc.sC) sc.sN n&&(decide ((jC sc.sN.toNat++chs (vsT ts) (qQ (z8 ts sc raw) 0) sc.sN.toNat).length<=9)))))))))
theorem qfC{ts}(g:bigT ts){sc raw n}(h:ok29 ts sc raw n=true):Cx ts sc (z8 ts sc raw) sc.sN.toNat/\zd n=true/\(yi ts [] n).1=0:=by
 simp only[ok29,qI,decide_eq_true_eq]at h;obtain⟨i,j,l,I,o,p,r,J,P⟩:=h;have F:=J9 j;have t:=F.s1;have C:yV sc=true:=by
  simp_all[jv,qI]
 refine⟨⟨Wo i g,p,F,C,o,k5 ts sc raw fun f hf=>J0 _ _ _,zOm,?_⟩,l,by rw[r]⟩
 grind
theorem qs7(ts)(hs:bigT ts)(sc raw)(hr:∀ l,l∈raw->∀ x,x∈l->0<=x/\x<=255)(n J lp)(a4:0<=lp/\lp<=255) :
  qi qe 7 [.agg (vM ts sc raw n J lp)] (tupM ts sc raw J lp (ok29 ts sc raw n)):=by
 generalize p:ok29 ts sc raw n=R;have t:=fun h=>qfC (ts:=ts) hs (sc:=sc) (raw:=raw) (n:=n) h
 unfold ok29 at p t;obtain⟨op,o,i,ks,q⟩:=n;have a5:vM ts sc raw (.mk op o i ks q) J lp=[.lst false (ts.sS.map vH),.lst false (ts.sA.map jq),lPd ts.sT,lFa ts.sP,lI sc.sC,aI sc.sN,lRaw raw,aI op,aS o,aI i,.lst false (ks.map cNd),aI q,lBB J,u8 lp]:=by unfold vM;rw[yB];rfl
 have a6:eNd (.mk op o i ks q) = .agg [aI op,aS o,aI i,.lst false (ks.map cNd),aI q]:=by rw[eNd,yB];rfl
 rw[a5];generalize hn:Nd.mk op o i ks q=n at *
 have wn:WK (.agg [aI op,aS o,aI i,.lst false (ks.map cNd),aI q]) (eNd n):=by rw[<-a6];exact .hf (qL n)
 have C:WK (.agg [.lst false (ts.sS.map vH),.lst false (ts.sA.map jq),lPd ts.sT,lFa ts.sP]) (eTS ts) := .hf (zn ts);have I:WK (.agg [lI sc.sC,aI sc.sN]) (eSc sc) := .hf (zr sc);refine qSU call7 func7 rfl ?_;refine fM ?_;refine cQ (ql8 ts) (.cons C .nil) ?_;cases h1:yP ts with
 |false =>
  rw[h1]at p;replace p:false=R:=p;subst p;simp[go_sem];exact wO _
 |true =>
 have S:=Wo h1 hs;rw[h1,Bool.true_and]at p t;simp[go_sem];refine cQ (qmD ts sc) (.cons C (.cons I .nil)) ?_;cases h2:jv ts sc with
 |false =>
  rw[h2]at p;replace p:false=R:=p;subst p;simp[go_sem];exact wO _
 |true =>
 have F:=J9 h2;rw[h2,Bool.true_and]at p t;simp[go_sem];refine cQ (Kr n) (.cons wn .nil) ?_;cases h4:zd n with
 |false =>
  rw[h4]at p;replace p:false=R:=p;subst p;simp[go_sem];exact wO _
 |true =>
 rw[h4,Bool.true_and]at p t;simp[go_sem];by_cases h9:sc.sC.length<=4
 case neg =>
  have T:(4:Int)<sc.sC.length:=zOm;rw[decide_eq_false h9]at p;replace p:false=R:=p;subst p;simp[go_sem,T];exact wO _
 have T:¬(4:Int)<sc.sC.length:=zOm;rw[decide_eq_true h9,Bool.true_and]at p t;simp[go_sem,T];refine cQ (mF sc F.g) (.cons I .nil) ?_;by_cases h3:sumI sc.sC<=5
 case neg =>
  have U:5<sumI sc.sC:=zOm;rw[decide_eq_false h3]at p;replace p:false=R:=p;subst p;simp[go_sem,U];exact wO _
 have U:¬ 5<sumI sc.sC:=zOm;rw[decide_eq_true h3,Bool.true_and]at p t;simp[go_sem,U];refine cQ S.chk (.cons C .nil) ?_;by_cases h5:ju ts=[]
 case neg =>
  have a0:0<(ju ts).length:=List.length_pos_iff.2 h5;rw[decide_eq_false h5]at p;replace p:false=R:=p;subst p;simp[go_sem,a0];exact wO _
 have a0:(ju ts).length=0:=by rw[h5];rfl
 rw[decide_eq_true h5,Bool.true_and]at p t;simp[go_sem,a0];refine cQ (S.chkF h4) (.cons C (.cons (WK.lst fun r hr=>absurd hr qH) (.cons wn .nil))) ?_;by_cases h6:yi ts [] n=(0,0)
 case neg =>
  rw[decide_eq_false h6]at p;replace p:false=R:=p;subst p;generalize yi ts [] n=D at *
  obtain⟨d1,d2⟩:=D;by_cases g1:d1=0
  .have g2:¬d2=0:=fun e=>h6 (by rw[g1,e])
   simp[go_sem,g1,g2];exact wO _
  .simp [go_sem,g1]
   exact wO _
 rw[decide_eq_true h6,Bool.true_and]at p t;rw[h6];simp[go_sem];have a2:=F.g.sum sc.sC.length;rw[qP]at a2;have a8:=F.s1;have a9:=F.s4;refine fR (mF sc F.g) (.cons I .nil) ?_;refine cQ (qsE S h5 (sumI sc.sC) sc.sN zOm zOm h4) (.cons C (.zs (.zs (.cons wn .nil)))) ?_;cases h7:Wp ts (sumI sc.sC) sc.sN n with
 |false =>
  rw[h7]at p;replace p:false=R:=p;subst p;simp[go_sem];exact wO _
 |true =>
 rw[h7,Bool.true_and]at p t;simp[go_sem];have hB:=k5 ts sc raw fun f hf=>J0 _ _ _
 have aa:(z8 ts sc raw).length=ts.sA.length:=Qt ts sc raw;have ab:=F.nf;have a3:∀ x,x∈z8 ts sc raw->x.up.ts.length<=1000/\x.lo.ts.length<=1000/\sorted x.lo.ts:=fun x t=>by
  obtain⟨j,hj,rfl⟩:=uf t;have h2:j<ts.sA.length:=zOm;have h:=qfA F h3 (qs h2);obtain⟨s1,s2⟩:=hB.so _ t;have h4:=YY s2 (hB.full j hj h2);have h5:=YY s1 (hB.sub _ t);exact⟨zOm,zOm,s1⟩
 have a1:∀ x,x∈z8 ts sc raw->Zo x:=fun x t=>by
  obtain⟨a,b,c⟩:=a3 x t;exact⟨zOm,zOm,c.imp fun h=>zOm⟩
 have a7:(qQ (z8 ts sc raw) 0).length<=100000:=by
  have:=k7 1000 (z8 ts sc raw) 0 fun x t=>(a3 x t).1
  omega
 have cM:=qs5 ts sc F raw hr;have cC:=qsZ ts sc (z8 ts sc raw) sc.sN.toNat zOm zOm zOm a1 zOm a7;refine fR cM (.cons C (.cons I (.zk (qfB raw) .nil))) ?_;refine cQ cC (.cons C (.cons I (.zk (jr _) .nil))) ?_;by_cases h8:(jC sc.sN.toNat++chs (vsT ts) (qQ (z8 ts sc raw) 0) sc.sN.toNat).length<=9
 case neg =>
  have P:(9:Int)<(jC sc.sN.toNat++chs (vsT ts) (qQ (z8 ts sc raw) 0) sc.sN.toNat).length:=zOm;rw[decide_eq_false h8]at p;subst p
  try simp only[za,pi]at P
  simp[go_sem,P];exact wO _
 have P:¬(9:Int)<(jC sc.sN.toNat++chs (vsT ts) (qQ (z8 ts sc raw) 0) sc.sN.toNat).length:=zOm;rw[decide_eq_true h8]at p;subst p
 try simp only[za,pi]at P
 simp[go_sem,P];refine fR (anyU ts sc F h3 J lp a4) (.cons C (.cons I (.zk (qaW _) (.zs .nil)))) ?_;exact .hf _ (qs6 _ _)
end I5
namespace IM
open P1 E3 GD G5 GM GP GQ GR GS GV GW GX GY GZ HA IC IE IK
variable {ts:TS} {sc:Sc} {b:List Bd} {N:Nat}
theorem Z7(F:Fit9 ts sc):BndV ts sc (defB ts sc):=by
 refine⟨by simp[defB],fun i h l=>?_,fun x g=>?_,fun x g t j=>?_,fun i h l t j=>?_⟩
 .simp [defB]
 .obtain ⟨f,hf,rfl⟩:=qn.1 g
  exact⟨List.Pairwise.nil,J0 _ _ _⟩
 .obtain ⟨f,hf,rfl⟩:=qn.1 g
  exact absurd j qH
 grind [defB]
theorem pa(F:Fit9 ts sc)(p:sc.sN=N)(l:1<=N)(g lp)(t:0<=lp):anyM sc (vsT ts) (defB ts sc) g (lp % sc.sN)∈LL ts sc (defB ts sc) N:=by
 have B:=Z7 F;have l:0<=lp % sc.sN/\lp % sc.sN<N:=⟨Int.emod_nonneg _ zOm,zW1 (Int.emod_lt_of_pos lp (b:=sc.sN) zOm)⟩;obtain⟨k,r⟩:=Int.eq_ofNat_of_zero_le l.1;rw[r];refine qsH sc (vsT ts) (defB ts sc) g N k p zOm (fun x j=>?_) (fun x j=>(B.so x j).2) B.sub;obtain⟨i,o,rfl⟩:=uf j;obtain⟨C,I⟩:=B.lo i o (by rw[<-B.len];exact o);omega
theorem qs8(F:Fit9 ts sc)(z:yV sc=true)(g:sc.sN=N){m}(h:m∈LL ts sc (defB ts sc) N):MdV ts m:=by
 obtain⟨k,c,i,j,rfl⟩:=UT.1 h
 grind [qeX,Z7]
theorem qfD(X:Cx ts sc b N){m}(h:m∈LL ts sc (defB ts sc) N):Shd sc (ts.sA.map fun f=>(f.sS.length:Int)) N m:=by
 have:=qe9 (Z7 X.F) (Wq (Z7 X.F) X.N1 h)
 grind [defB,Function.comp_def]
theorem qfE(X:Cx ts sc b N){m}(h:m∈LL ts sc b N):Shd sc (ts.sA.map fun f=>(f.sS.length:Int)) N m:=by
 have:=qe9 X.B (X.betw h);have e:(b.map fun x=>x.up.ar)=ts.sA.map fun f=>(f.sS.length:Int):=by
  refine List.ext_getElem (by simp[X.B.len]) fun i g j=>?_
  simp only[Zv,zF]at g j⊢;exact(X.B.lo i g j).2
 rwa[e]at this
theorem pb(g h L i):(zN g L i).2.2=(zN h L i).2.2:=by
 unfold zN;split
 .rfl
 .cases L<;>rfl
theorem qfF(g h L i)(j:∀ x y,x∈L->y∈L->(g x<g y↔h x<h y)):(zN g L i).1=(zN h L i).1:=by
 unfold zN;split
 .rfl
 .cases L with
  |nil=>rfl
  |cons m l=>exact k6 g h l m j
theorem qfG(lo)(i:lo.ts=[]):∀(g:List Int)(n),(g.foldl (y9 [] lo) ([],n)).1=[]
 | [],n=>rfl
 |t :: g,n=>by
  have e:y9 [] lo ([],n) t=([],n+1):=by simp[y9,i]
  rw[List.foldl_cons,e];exact qfG lo i g (n+1)
theorem qfH(lo g)(l:∀ x,x∈g->x=true)(o:lo.ts=[]):∀(i acc:List Int)(n),n+i.length<=g.length->(i.foldl (y9 g lo) (acc,n)).1=acc++i/\(i.foldl (y9 g lo) (acc,n)).2=n+i.length
 | [],acc,n,_=>zSp
 |t :: i,acc,n,h=>by
  simp only[zu]at h;have p:g.getD n false=true:=by
   rw[zG,qA (show n<g.length by omega)];exact l _ (qs _)
  have j:g[n]?.getD false=true:=by rw[<-zG];exact p
  have e:y9 g lo (acc,n) t=(acc++[t],n+1):=by simp[y9,o,j]
  rw[List.foldl_cons,e];obtain⟨r,C⟩:=qfH lo g l o i (acc++[t]) (n+1) zOm;refine⟨by rw[r];simp,by rw[C];simp only[zu];omega⟩
theorem qfI:∀(i:List Bd)(q),(∀ x,x∈i->x.lo.ts=[])->(∀ r,r∈q.1->r.ts=[])->∀ r,r∈(i.foldl (insB []) q).1->r.ts=[]
 | [],q,_,h,r,g=>h r g
 |x :: i,q,j,h,r,g=>by
  rw[List.foldl_cons]at g;refine qfI i _ (fun y l=>j y (zP1 l)) (fun r g=>?_) r g;rcases qK.1 g with g|g
  .exact h r g
  .rw [qV]at g
   subst g;exact qfG x.lo (j x zSp) x.up.ts q.2
theorem qfJ(g)(j:∀ x,x∈g->x=true)(M):∀(i:List Bd)(q),(∀ x,x∈i->x.lo.ts=[]/\x.up.ts.length<=M)->q.2+i.length*M<=g.length->(i.foldl (insB g) q).1=q.1++i.map fun x=>⟨x.up.ar,x.up.ts⟩
 | [],q,_,_=>zSp
 |x :: i,q,l,h=>by
  obtain⟨o,J⟩:=l x zSp;simp only[zu,Nat.add_mul,Nat.one_mul]at h;obtain⟨p,r⟩:=qfH x.lo g j o x.up.ts [] q.2 zOm;have t:(insF g x.lo x.up.ts q.2).1=x.up.ts:=by rw[insF,p,vo]
  have C:(insF g x.lo x.up.ts q.2).2=q.2+x.up.ts.length:=r;rw[List.foldl_cons,insB,t,C,qfJ g j M i _ (fun y I=>l y (zP1 I)) (by simp only;omega)];simp
theorem qs9(F:Fit9 ts sc)(g:sumI sc.sC<=5){f}(hf:f∈ts.sA):(yE sc f.sS).length<=125:=by
 have i:=(F.f1 f hf).2;have j:=F.p;refine Nat.le_trans (UF _ _ _) ?_;have:sumI sc.sC ^ f.sS.length<=125:=by
  rcases (show f.sS.length=0\/f.sS.length=1\/f.sS.length=2\/f.sS.length=3 by omega) with e|e|e|e<;>rw[e]<;>rcases (show sumI sc.sC=1\/sumI sc.sC=2\/sumI sc.sC=3\/sumI sc.sC=4\/sumI sc.sC=5 by omega) with d|d|d|d|d<;>rw[d]<;>decide
 omega
theorem qfK(X:Cx ts sc b 1){x}(g:x∈LL ts sc b 1):yo x (anyM sc (vsT ts) (defB ts sc) [] (0 % sc.sN))=szS x.sK:=by
 have j:=qfE X g;have C:=pa X.F X.hS (qr 1) [] 0 zOm;have l:=qfD X C;rw[j.dist l];have J:=X.betw g;have P:=Wq (Z7 X.F) (qr 1) C;have R:x.loop=(anyM sc (vsT ts) (defB ts sc) [] (0 % sc.sN)).loop:=by
  obtain⟨U,c1,c2⟩:=J.lp;obtain⟨k2,d1,d2⟩:=P.lp;omega
 rw[if_pos R,Int.add_zero];refine qe6 (by rw[j.n,l.n]) (fun s t T o=>by rw[j.len T,l.len o]) fun t o r i=>?_
 obtain⟨k,I,rfl⟩:=qn.1 o;have p:sc.sN.toNat=1:=zW1 X.hS;rw[p]at I;obtain rfl:k=0:=zUs I;rw[anyS,if_pos rfl]at i;exact qfI (defB ts sc) ([],0) (fun x g=>by obtain⟨f,_,rfl⟩:=qn.1 g;rfl) (fun r i=>absurd i qH) r i
theorem qfL(X:Cx ts sc b 1)(g)(hp:∀ x,x∈g->x=true)(a0:g.length=800){x}(o:x∈LL ts sc b 1):yo x (anyM sc (vsT ts) (defB ts sc) [g] (0 % sc.sN))=szS (anyM sc (vsT ts) (defB ts sc) [g] (0 % sc.sN)).sK-szS x.sK:=by
 have p:=qfE X o;have P:=pa X.F X.hS (qr 1) [g] 0 zOm;have r:=qfD X P;rw[p.dist r];have C:=X.betw o;have b2:=Wq (Z7 X.F) (qr 1) P;have hl:x.loop=(anyM sc (vsT ts) (defB ts sc) [g] (0 % sc.sN)).loop:=by
  obtain⟨k1,c1,c2⟩:=C.lp;obtain⟨k2,d1,d2⟩:=b2.lp;omega
 rw[if_pos hl,Int.add_zero];refine qe8 (by rw[p.n,r.n]) fun s t R T=>⟨by rw[p.len R,r.len T],fun i U i2 y hy=>?_⟩
 obtain⟨k,hk,rfl⟩:=qn.1 T;have I:sc.sN.toNat=1:=zW1 X.hS;rw[I]at hk;obtain rfl:k=0:=zUs hk;obtain⟨j,hj,rfl⟩:=uf R;have l:i<b.length:=by rw[<-C.len _ (qs hj)];exact U
 have J:i<ts.sA.length:=by rw[<-X.B.len];exact l
 have e:anyS (vsT ts) (defB ts sc) [g] 0=(defB ts sc).map fun x=>⟨x.up.ar,x.up.ts⟩:=by
  rw[anyS,if_pos rfl];have:=qfJ g hp 125 (defB ts sc) ([],0) (fun x o=>by
   obtain⟨f,hf,rfl⟩:=qn.1 o;exact⟨rfl,qs9 X.F X.h5 hf⟩) (by have:=X.F.nf;simp only[defB,zF];omega)
  exact this
 simp only[e];simp only[defB,Zv];obtain⟨a1,a2,a3,a4⟩:=C.rel j i hj l U;exact X.B.full i l J y (a4 y hy)
end IM
namespace IG
end IG
namespace I4
end I4
set_option maxHeartbeats 1000000
namespace JK
end JK
set_option maxHeartbeats 1000000
namespace W42
open Y1 YF P1 E3 GS IC IK I5 W41
theorem qtA(ts sc raw n g lp):HF (.agg (vM ts sc raw n g lp)):=HF.agg fun c i=>by
 unfold vM at i;simp only[qK,qy,qH,or_false]at i;rcases i with h | (rfl|rfl|rfl)|h|rfl|rfl
 .exact JR ts c (by simpa[cTS] using h)
 .exact zh _
 .exact HF.sc _
 .exact qfB raw
 .exact vJ n c h
 .exact qaW _
 .exact HF.sc _
theorem _root_.Go.Proofs.YtipbakanneogpaaGreatDoor.IK.Cx.tiny{ts sc b N}(X:Cx ts sc b N){m}(h:Betw sc (vsT ts) b N m):tiny m:=
 ⟨X.sms h,by rw[h.sc];have:=X.F.g.1;have:=X.F.ns;have:=X.S.h.ns;omega⟩
end W42
namespace JM
open Y1 P1 Q4 E3 F1 GD GV IE IK YF EP
section
variable {S:List (List Rl)}
theorem qfM(s:List Rl)(k h):szT (s.take (k+1))=szT (s.take k)+s[k].ts.length:=by
 rw[yj h];unfold szT;rw[zb,List.foldr_append];generalize s.take k=l;induction l with
 |nil=>simp
 |cons x l g=>simp only[zQ,List.map_nil,List.foldr_cons,List.foldr_nil]at g⊢;omega
theorem qfN(s:List (List Rl))(k h):szS (s.take (k+1))=szS (s.take k)+szT s[k]:=by
 rw[yj h];unfold szS;rw[zb,List.foldr_append];generalize s.take k=l;induction l with
 |nil=>simp
 |cons x l g=>simp only[zQ,List.map_nil,List.foldr_cons,List.foldr_nil]at g⊢;omega
theorem pf:∀ s,(∀ r,r∈s->r.ts.length<=1000)->0<=szT s/\szT s<=s.length*1000
 | [],_=>by simp[szT]
 |r :: s,h=>by
  have g:=pf s fun x i=>h x (zc _ i)
  have:=h r (zl ..);simp only[szT,zQ,List.foldr_cons,zu]at g⊢;omega
theorem qfO:∀ s,(∀ t,t∈s->0<=szT t/\szT t<=1000000)->0<=szS s/\szS s<=s.length*1000000
 | [],_=>by simp[szS]
 |r :: s,h=>by
  have g:=qfO s fun x i=>h x (zc _ i)
  have:=h r (zl ..);simp only[szS,zQ,List.foldr_cons,zu]at g⊢;omega
theorem qtB(h:SmS S):∀ t,t∈S->0<=szT t/\szT t<=1000000:=fun t g=>by
 have:=pf t fun r i=>(h.t t g r i).1
 have:=h.f t g;omega
theorem pg(h:SmS S)(k):0<=szS (S.take k)/\szS (S.take k)<=1000000000:=by
 have:=qfO (S.take k) fun t g=>qtB h t (jD g)
 have i:=h.n;have:(S.take k).length<=S.length:=List.length_take_le' _ _;omega
theorem Wu(h:SmS S){t}(g:t∈S)(k):0<=szT (t.take k)/\szT (t.take k)<=1000000:=by
 have:=pf (t.take k) fun r i=>(h.t t g r (jD i)).1
 have j:=h.f t g;have:(t.take k).length<=t.length:=List.length_take_le' _ _;omega
theorem qtC(g)(hf:g=1\/g = -1)(m)(P:SmS m.sK):qi qe 82 [eMd m,.ip [aI g]] (aI (g*szS m.sK)):=by
 refine qSV call82 func82 rfl ?_;have hn:=P.n;simp[go_sem];refine kL m.sK.length (fun k U=>U.tm 1 = .ip [aI g]/\U.tm 4=aI (szS (m.sK.take k))/\U.tm 10=lSt m.sK/\U.tm 11=aI m.sK.length/\U.tm 12=aI k) ?_ ?_
 .exact ⟨zSi,by simp[go_sem,szS],zSi,zSi,zSi⟩
 rintro k U hk ⟨R,C,o,i,l⟩;by_cases t:k<m.sK.length
 .have p:=qs t
  have w1:=zWk k;have hS:=qfN m.sK k t;have b0:=pg P k;have a1:=P.f _ p;simp[go_sem,o,i,l,t];refine kL m.sK[k].length (fun j U=>U.tm 1 = .ip [aI g]/\U.tm 4=aI (szS (m.sK.take k)+szT (m.sK[k].take j))/\U.tm 10=lSt m.sK/\U.tm 11=aI m.sK.length/\U.tm 12=aI k/\U.tm 16=lRel m.sK[k]/\U.tm 17=aI m.sK[k].length/\U.tm 18=aI j) ?_ ?_
  .exact ⟨zS1 R,by simp[go_sem,C,szT],zS1 o,zS1 i,zS1 l,zSi,zSi,zSi⟩
  clear R C o i l;rintro j U hj ⟨R,C,o,i,l,T,I,a0⟩;by_cases J:j<m.sK[k].length
  .have w2:=zWk j
   have hT:=qfM m.sK[k] j J;have b1:=Wu P p j;have b2:=Wu P p (j+1);have w3:qp.wrap (szS (m.sK.take k)+szT (m.sK[k].take j)+m.sK[k][j].ts.length)=szS (m.sK.take k)+szT (m.sK[k].take (j+1)):=by rw[zWr];omega
   simp[go_sem,C,T,I,a0,J,w2,w3]
   try refine⟨J,aK ?_⟩
   try refine aK ?_
   exact⟨zS1 R,zSi,zS1 o,zS1 i,zS1 l,zS1 T,zS1 I,zSi⟩
  .have r:j=m.sK[k].length:=by omega
   rw[r,qP,<-hS]at C;simp[go_sem,l,I,a0,r,w1]
   try refine⟨t,aK ?_⟩
   try refine aK ?_
   exact⟨zS1 R,zS1 C,zS1 o,zS1 i,zSi⟩
 .have r:k=m.sK.length:=by omega
  rw[r,qP]at C;have b0:=pg P m.sK.length;rw[qP]at b0;have w:qp.wrap (g*szS m.sK)=g*szS m.sK:=by rcases hf with rfl|rfl<;>exact zWr
  simp[go_sem,R,C,i,l,r,w];exact .zsc _
theorem qfP(m)(C:SmS m.sK):qi qe 17 [eMd m] (aI (szS m.sK)):=by
 refine qSV call17 func17 rfl ?_;have hn:=C.n;simp[go_sem];refine kL m.sK.length (fun k U=>U.tm 1 = .ip (cMd m)/\U.tm 3=aI (szS (m.sK.take k))/\U.tm 4=aI k) ?_ ?_
 .exact ⟨zSi,by simp[go_sem,szS],zSi⟩
 rintro k U hk ⟨o,p,r⟩;by_cases g:k<m.sK.length
 .have i:=qs g
  have J:=zWk k;have P:=qfN m.sK k g;have b0:=pg C k;have R:=C.f _ i;simp[go_sem,o,r,g];refine kL m.sK[k].length (fun j U=>U.tm 1 = .ip (cMd m)/\U.tm 3=aI (szS (m.sK.take k)+szT (m.sK[k].take j))/\U.tm 4=aI k/\U.tm 5=aI j) ?_ ?_
  .exact ⟨zS1 o,by simp[go_sem,p,szT],zS1 r,zSi⟩
  clear o p r;rintro j U hj ⟨o,p,r,I⟩;by_cases t:j<m.sK[k].length
  .have T:=zWk j
   have hT:=qfM m.sK[k] j t;have b1:=Wu C i j;have b2:=Wu C i (j+1);have w3:qp.wrap (szS (m.sK.take k)+szT (m.sK[k].take j)+m.sK[k][j].ts.length)=szS (m.sK.take k)+szT (m.sK[k].take (j+1)):=by rw[zWr];omega
   simp[go_sem,o,p,r,I,g,t,T,w3]
   try refine⟨t,aK ?_⟩
   try refine aK ?_
   exact⟨zS1 o,zSi,zS1 r,zSi⟩
  .have l:j=m.sK[k].length:=by omega
   rw[l,qP,<-P]at p;simp[go_sem,o,r,I,g,l,J]
   try refine⟨g,aK ?_⟩
   try refine aK ?_
   exact⟨zS1 o,zS1 p,zSi⟩
 .have l:k=m.sK.length:=by omega
  rw[l,qP]at p;simp[go_sem,o,p,r,l];exact .zsc _
theorem qfQ(i):HF (.fn (.func 82) [] [.ip [aI i]]):=HF.fn (fun c g=>by simp at g) (fun c g=>by simp at g;subst g;exact HF.ip fun c g=>by simp at g;subst g;exact HF.sc _)
variable {ts:TS} {sc:Sc} {b:List Bd} {N:Nat}
theorem qfR(X:Cx ts sc b N){n}(p:zd n=true)(g)(hf:g=1\/g = -1) :
  qi qe 31 [eTS ts,eSc sc,lBd b,eNd n,.fn (.func 82) [] [.ip [aI g]]] (tup3 (zN (fun x=>g*szS x.sK) (MV ts sc b N n).1 (MV ts sc b N n).2)):=by
 have t:=(Cx.Z6 (ts:=ts) (sc:=sc) (b:=b) (N:=N) (n:=n)).length_le;have l:=X.len;have o:HF (.ip [aI g]):=HF.ip fun c i=>by simp at i;subst i;exact HF.sc _
 have j:HF (.fn (.func 82) [] [.ip [aI g]]):=HF.fn (fun c i=>by simp at i) (fun c i=>by simp at i;subst i;exact o);exact qbH ts sc b n _ j _ _ _ zOm (X.models p) ⟨j,_,[],_,rfl,fun x r=>⟨[eMd x,.ip [aI g]],.zk (yx x) (.zk o .nil),qtC g hf x (X.sms (X.betw (Cx.Z6.subset r)))⟩⟩
theorem Z3(i):qi qe 42 [aI i] (.fn (.func 82) [] [.ip [aI i]]):=by
 refine qSU call42 func42 rfl ?_;exact .hf _ (HF.fn (fun c g=>by simp at g) (fun c g=>by simp at g;subst g;exact HF.ip fun c g=>by simp at g;subst g;exact HF.sc _))
theorem minU(X:Cx ts sc b N){n}(g:zd n=true) :
  qi qe 14 [eTS ts,eSc sc,lBd b,eNd n] (.tup [eMd (zN (fun x=>1*szS x.sK) (MV ts sc b N n).1 (MV ts sc b N n).2).1,aI (zN (fun x=>1*szS x.sK) (MV ts sc b N n).1 (MV ts sc b N n).2).2.2]):=by
 have h:=qfR X g 1 (.inl rfl);generalize zN (fun x=>1*szS x.sK) (MV ts sc b N n).1 (MV ts sc b N n).2=R at *
 obtain⟨m,d,e⟩:=R;refine qSU call14 func14 rfl ?_;refine fM ?_;refine fR (Z3 1) (.zs .nil) ?_;refine fR h (.zk (zn _) (.zk (zr _) (.zk (jr _) (.zk (qL _) (.zk (qfQ 1) .nil))))) ?_;exact .hf _ (HF.tup (by simp only[qy,qH,or_false,forall_eq_or_imp,forall_eq];exact⟨yx _,HF.sc _⟩))
theorem maxU(X:Cx ts sc b N){n}(g:zd n=true) :
  qi qe 15 [eTS ts,eSc sc,lBd b,eNd n] (.tup [eMd (zN (fun x => -1*szS x.sK) (MV ts sc b N n).1 (MV ts sc b N n).2).1,aI (zN (fun x => -1*szS x.sK) (MV ts sc b N n).1 (MV ts sc b N n).2).2.2]):=by
 have h:=qfR X g (-1) (.inr rfl);generalize zN (fun x => -1*szS x.sK) (MV ts sc b N n).1 (MV ts sc b N n).2=R at *
 obtain⟨m,d,e⟩:=R;refine qSU call15 func15 rfl ?_;refine fM ?_;refine fR (Z3 (-1)) (.zs .nil) ?_;refine fR h (.zk (zn _) (.zk (zr _) (.zk (jr _) (.zk (qL _) (.zk (qfQ (-1)) .nil))))) ?_;exact .hf _ (HF.tup (by simp only[qy,qH,or_false,forall_eq_or_imp,forall_eq];exact⟨yx _,HF.sc _⟩))
end
end JM
set_option maxHeartbeats 1000000
namespace JP
open Y1 YF P1 Q4 E3 E4 F1 GD GN GP GR GV GX IB IE IK IM W41 IM GX QB JM GN
def tsA:TS:=⟨[(⟨#[65]⟩,false)],[⟨⟨#[102]⟩,[0],false⟩],[],[]⟩
def scA:Sc:=⟨[3],1⟩
def bsA:List Bd:=[⟨⟨1,[]⟩,⟨1,[0,1,2]⟩⟩]
def nTwo:Nd := .mk 38 ⟨#[]⟩ 0 [.mk 21 ⟨#[]⟩ 0 [.mk 1 ⟨#[102]⟩ 0 [] 0] 0,.mk 20 ⟨#[]⟩ 2 [] 0] 0
abbrev nOp(o:Int):Nd := .mk o ⟨#[]⟩ 0 [] 0
def mkA(l:List Int):Md:=⟨scA,[[⟨1,l⟩]],0⟩
theorem of29(l):qi qe 19 [eSc scA,lI l] (eMd (mkA l)):=by
 refine qSU call19 func19 rfl ?_;refine .agg _ _ rfl fun k x y g i=>?_
 match k with
 | 0=>simp[mkA,scA]at g i;subst g;subst i;exact .hf _ (zh _)
 | 1=>simp[mkA,scA]at g i;subst g;subst i;exact .zsc _
 | 2 =>
  simp[mkA]at g i;subst g;subst i;refine .wk _ true _ (.lst true _ _ rfl (fun k x y g i=>?_) fun k x y g i=>?_)
  .grind
  .match k with
   | 0=>simp at g i;subst g;subst i;exact .wk _ true _ (.hf _ (HF.lst fun r j c o=>by simp at j;subst j;simp at o;rcases o with rfl|rfl;exact HF.sc _;exact zh l))
   |k+1=>simp at g
 | 3=>simp[mkA]at g i;subst g;subst i;exact .zsc _
 |k+4=>simp at g
theorem wtsA:WK (.agg [.lst true [[aS ⟨#[65]⟩,aB false]],.lst true [[aS ⟨#[102]⟩,.lst true [[aI 0]],aB false]],.lst true [],.lst true []]) (eTS tsA):=
 WK.aggs (.cons (wF ⟨.zs (.zs .nil),trivial⟩) (.cons (wF ⟨.zs (.cons (WK.ints [0]) (.zs .nil)),trivial⟩) (.cons (wF (by trivial)) (.cons (wF (by trivial)) .nil))))
theorem wscA:WK (.agg [.lst true [[aI 3]],aI 1]) (eSc scA):=WK.aggs (.cons (WK.ints [3]) (.zs .nil))
theorem wnA:WK (.agg [aI 38,aS ⟨#[]⟩,aI 0,.lst true [[aI 21,aS ⟨#[]⟩,aI 0,.lst true [[aI 1,aS ⟨#[102]⟩,aI 0,.lst true [],aI 0]],aI 0],[aI 20,aS ⟨#[]⟩,aI 2,.lst true [],aI 0]],aI 0]) (eNd nTwo):=qcL 38 ⟨#[]⟩ 0 0 (wF ⟨U5 21 ⟨#[]⟩ 0 0 (wF ⟨U5 1 ⟨#[102]⟩ 0 0 (wF (by trivial)),trivial⟩),U5 20 ⟨#[]⟩ 2 0 (wF (by trivial)),trivial⟩)
theorem wnO(o):WK (.agg [aI o,aS ⟨#[]⟩,aI 0,.lst true [],aI 0]) (eNd (nOp o)):=qcL o ⟨#[]⟩ 0 0 (wF (by trivial))
theorem wmZ:WK (.agg [.lst true [],aI 0,.lst true [],aI 0]) (eMd mdZ):=WK.aggs (.cons (WK.lst fun r g=>absurd g qH) (.zs (.cons (WK.lst fun r g=>absurd g qH) (.zs .nil))))
theorem defA:defB tsA scA=bsA:=by decide +kernel
theorem cxA:Cx tsA scA bsA 1:=⟨Wo (by decide +kernel) (by intro x g;simp[tsA]at g;subst g;decide),by decide +kernel,J9 (by decide +kernel),by decide +kernel,by show sumI [3]<=5;decide,by have:=Z7 (ts:=tsA) (sc:=scA) (J9 (by decide +kernel));rwa[defA]at this,rfl,by decide +kernel⟩
theorem memA(l)(h:mkA l∈LL tsA scA bsA 1):SmS (mkA l).sK/\MdV tsA (mkA l):=⟨cxA.sms (cxA.betw h),cxA.mdv h⟩
theorem badU:qi qe 55 [eTS tsA,.agg [lI [],aI 0]] (aB false):=by
 refine qSV call55 func55 rfl ?_;simp[go_sem,tsA];exact .zsc _
theorem badM:qi qe 29 [eTS tsA,eMd mdZ] (aB false):=by
 refine qSV call29 func29 rfl ?_;simp[go_sem,mdZ];refine fR badU (.zk (zn _) (.zk (zr ⟨[],0⟩) .nil)) ?_;exact .zsc _
theorem ph(n)(j:zd n=true)(m g)(l:SmS m.sK)(o:m.sc.sC.length<=1000000)(p:qi qe 29 [eTS tsA,eMd m] (aB g)) :
  qi qe 8 [eTS tsA,eSc scA,lBd bsA,eNd n,eMd m] (tup3 (ua g scA (MV tsA scA bsA 1 n).1 (MV tsA scA bsA 1 n).2 m)):=
 qbI tsA scA bsA n m g _ _ (zW2 ((Cx.Z6 (ts:=tsA) (sc:=scA) (b:=bsA) (N:=1) (n:=n)).length_le) cxA.len) l (fun x r=>by have i:=cxA.betw (Cx.Z6.subset r);exact⟨cxA.sms i,by rw[i.sc];decide⟩) o p (cxA.models j)
theorem smZ:SmS mdZ.sK:=⟨zDe,fun s g=>absurd g qH,fun s g=>absurd g qH⟩
theorem headM:qi qe 6 [] (aB true):=by
 have d1:=qaU tsA scA cxA.F;rw[defA]at d1;have U:∀ l,l∈[[],[0],[1],[2],[0,1],[0,2],[1,2],[0,1,2]]->mkA l∈LL tsA scA bsA 1:=by decide +kernel
 have g:∀ l,l∈[[],[0],[1],[2],[0,1],[0,2],[1,2],[0,1,2]]->SmS (mkA l).sK/\MdV tsA (mkA l):=fun l j=>memA l (U l j)
 obtain⟨o,r⟩:=g [2] zDe;have t:=ph nTwo (by decide +kernel) (mkA [2]) true o zDe (kZ tsA _ r);rw[show ua true scA (MV tsA scA bsA 1 nTwo).1 (MV tsA scA bsA 1 nTwo).2 (mkA [2])=(mkA [1,2],1,0) by decide +kernel]at t;have C:=ph (nOp 31) (by decide +kernel) (mkA [2]) true o zDe (kZ tsA _ r);rw[show ua true scA (MV tsA scA bsA 1 (nOp 31)).1 (MV tsA scA bsA 1 (nOp 31)).2 (mkA [2])=(mdZ,0,270) by decide +kernel]at C;have I:=ph nTwo (by decide +kernel) mdZ false smZ zDe badM;rw[show ua false scA (MV tsA scA bsA 1 nTwo).1 (MV tsA scA bsA 1 nTwo).2 mdZ=(mdZ,0,1) by decide +kernel]at I;have J:=minU cxA (n:=nTwo) (by decide +kernel);rw[show zN (fun x=>1*szS x.sK) (MV tsA scA bsA 1 nTwo).1 (MV tsA scA bsA 1 nTwo).2=(mkA [1,2],2,0) by decide +kernel]at J;have P:=maxU cxA (n:=nOp 30) (by decide +kernel);rw[show zN (fun x => -1*szS x.sK) (MV tsA scA bsA 1 (nOp 30)).1 (MV tsA scA bsA 1 (nOp 30)).2=(mkA [0,1,2],-3,0) by decide +kernel]at P;have R:=X4 (mkA [0,1]) (mkA [1,2]) (g _ zDe).1 (g _ zDe).1 zDe;rw[show yo (mkA [0,1]) (mkA [1,2])=2 by decide +kernel]at R;have T:=X4 (mkA [2]) mdZ o smZ zDe;rw[show yo (mkA [2]) mdZ = -1 by decide +kernel]at T;have p:∀ l,l∈[[],[0],[1],[2],[0,1],[0,2],[1,2],[0,1,2]]->qi qe 12 [eMd (mkA l),eMd (mkA l)] (aB true):=fun l j=>by
  have:=KN (mkA l) (mkA l) (k8 (g l j).1 (by show [3].length<=_;decide))
  rwa[decide_eq_true rfl]at this
 have i:∀ x y:Md,WKs [eMd x,eMd y] [eMd x,eMd y]:=fun x y => .zk (yx x) (.zk (yx y) .nil)
 refine qSU call6 func6 rfl ?_;refine fR d1 (.cons wtsA (.cons wscA .nil)) ?_;refine fR (of29 [2]) (.cons wscA (.cons (WK.ints [2]) .nil)) ?_;refine fR t (.cons wtsA (.cons wscA (.zk (jr _) (.cons wnA (.zk (yx _) .nil))))) ?_;refine fR J (.cons wtsA (.cons wscA (.zk (jr _) (.cons wnA .nil)))) ?_;refine fR P (.cons wtsA (.cons wscA (.zk (jr _) (.cons (wnO 30) .nil)))) ?_;refine fR C (.cons wtsA (.cons wscA (.zk (jr _) (.cons (wnO 31) (.zk (yx _) .nil))))) ?_;refine fR I (.cons wtsA (.cons wscA (.zk (jr _) (.cons wnA (.cons wmZ .nil))))) ?_
 try(refine cH zKr ?_;simp[go_sem])
 refine fR (of29 [0,1]) (.cons wscA (.cons (WK.ints [0,1]) .nil)) ?_
 try(refine cH zKr ?_;simp[go_sem])
 refine fR (of29 [1,2]) (.cons wscA (.cons (WK.ints [1,2]) .nil)) ?_
 try(refine cH zKr ?_;simp[go_sem])
 refine fR R (i _ _) ?_
 try(refine cH zKr ?_;simp[go_sem])
 refine fR T (.zk (yx _) (.cons wmZ .nil)) ?_
 try(refine cH zKr ?_;simp[go_sem])
 refine fR (of29 [1,2]) (.cons wscA (.cons (WK.ints [1,2]) .nil)) ?_
 try(refine cH zKr ?_;simp[go_sem])
 refine fR (p [1,2] zDe) (i _ _) ?_
 try(refine cH zKr ?_;simp[go_sem])
 refine fR (of29 [1,2]) (.cons wscA (.cons (WK.ints [1,2]) .nil)) ?_
 try(refine cH zKr ?_;simp[go_sem])
 refine fR (p [1,2] zDe) (i _ _) ?_
 try(refine cH zKr ?_;simp[go_sem])
 refine fR (of29 [0,1,2]) (.cons wscA (.cons (WK.ints [0,1,2]) .nil)) ?_
 try(refine cH zKr ?_;simp[go_sem])
 refine fR (p [0,1,2] zDe) (i _ _) ?_;exact .zsc _
end JP
set_option maxHeartbeats 1000000
namespace W47
open Y1 YF P1 Q4 E3 GD GP GR GS GV GX IK IM IM
theorem qtD{ts sc}(F:Fit9 ts sc)(l:sumI sc.sC<=5)(g lp):SmS (anyM sc (vsT ts) (defB ts sc) g lp).sK:=by
 have i:=Kw F l;have:=F.s4;have:=F.nf;exact qk7 sc _ _ g lp zOm (by simp[defB];omega) fun b j=>⟨(i b j).1,(i b j).2.1⟩
theorem qfS{ts sc b N}(X:Cx ts sc b N){n}(o:zd n=true)(i lp)(p:0<=lp) :
  qi qe 8 [eTS ts,eSc sc,lBd b,eNd n,eMd (anyM sc (vsT ts) (defB ts sc) i (lp % sc.sN))] (tup3 (zN (fun x=>yo x (anyM sc (vsT ts) (defB ts sc) i (lp % sc.sN))) (MV ts sc b N n).1 (MV ts sc b N n).2)):=by
 have r:=pa X.F X.hS X.N1 i lp p;have I:=(Cx.Z6 (ts:=ts) (sc:=sc) (b:=b) (N:=N) (n:=n)).length_le;have j:=X.len;have t:sc.sC.length<=1000:=by have:=X.F.g.1;have:=X.F.ns;have:=X.S.h.ns;omega
 have:=qbI ts sc b n (anyM sc (vsT ts) (defB ts sc) i (lp % sc.sN)) true (MV ts sc b N n).1 (MV ts sc b N n).2 zOm (qtD X.F X.h5 i _) (fun x C=>by
  have l:=X.betw (Cx.Z6.subset C);exact⟨X.sms l,by rw[l.sc];omega⟩) (by show sc.sC.length<=_;omega) (kZ ts _ (qs8 X.F X.z X.hS r)) (X.models o)
 rwa[ua,if_pos ⟨rfl,rfl,rfl⟩]at this
end W47
namespace JN
open P1 E3 GD GP GS GV IE IK IM
variable {ts:TS} {sc:Sc} {b:List Bd} {N:Nat}
theorem ext29(X:Cx ts sc b 1){L}(j:∀ x,x∈L->x∈LL ts sc b 1)(g i)(r:∀ x,x∈i->x=true)(t:i.length=800) :
  (zN (fun x=>1*szS x.sK) L g).1=(zN (fun x=>yo x (anyM sc (vsT ts) (defB ts sc) [] (0 % sc.sN))) L g).1 /\
  (zN (fun x => -1*szS x.sK) L g).1=(zN (fun x=>yo x (anyM sc (vsT ts) (defB ts sc) [i] (0 % sc.sN))) L g).1 /\
  szS (zN (fun x=>1*szS x.sK) L g).1.sK<=szS (zN (fun x => -1*szS x.sK) L g).1.sK:=by
 refine⟨qfF _ _ L g fun x y o p=>?_,qfF _ _ L g fun x y o p=>?_,?_⟩
 .show 1*szS x.sK<1*szS y.sK↔yo x _<yo y _
  rw[qfK X (j x o),qfK X (j y p)];omega
 .show -1*szS x.sK < -1*szS y.sK↔yo x _<yo y _
  rw[qfL X i r t (j x o),qfL X i r t (j y p)];omega
 .unfold zN
  split
  .exact Int.le_refl _
  .cases L with
   |nil=>exact Int.le_refl _
   |cons m l =>
    have:=qsR (fun x=>1*szS x.sK) l m _ (qe4 (fun x => -1*szS x.sK) l m);simp only at this⊢;omega
end JN
set_option maxHeartbeats 1000000
namespace W48
open Y1 YF P1 E3 E4 EO EQ F1 F4 GD GF GH GN GP GR GS GV HE IB IE IK IM I2 I5 W41 W42 W47 JM JN GN QB
theorem extrW(ts)(hs:bigT ts)(sc raw)(hr:∀ l,l∈raw->∀ x,x∈l->0<=x/\x<=255)(n J lp)(ae:0<=lp/\lp<=255) :
  qi qe 4 [.agg (vM ts sc raw n J lp)] (aB true):=by
 obtain⟨p,a6⟩:∃ s:Sc,s=⟨sc.sC,1⟩:=⟨_,rfl⟩;have ea:sc.sC=p.sC:=by rw[a6]
 have I:p.sN=1:=by rw[a6]
 have a0:=qs7 ts hs p raw hr n J lp ae;have hx:=fun h=>qfC (ts:=ts) hs (sc:=p) (raw:=raw) (n:=n) h
 obtain⟨op,o,i,ks,q⟩:=n;have af:vM ts sc raw (.mk op o i ks q) J lp=[.lst false (ts.sS.map vH),.lst false (ts.sA.map jq),lPd ts.sT,lFa ts.sP,lI p.sC,aI sc.sN,lRaw raw,aI op,aS o,aI i,.lst false (ks.map cNd),aI q,lBB J,u8 lp]:=by unfold vM;rw[yB,ea];rfl
 have a7:vM ts p raw (.mk op o i ks q) J lp=[.lst false (ts.sS.map vH),.lst false (ts.sA.map jq),lPd ts.sT,lFa ts.sP,lI p.sC,aI 1,lRaw raw,aI op,aS o,aI i,.lst false (ks.map cNd),aI q,lBB J,u8 lp]:=by unfold vM;rw[yB,I];rfl
 have ag:eNd (.mk op o i ks q) = .agg [aI op,aS o,aI i,.lst false (ks.map cNd),aI q]:=by rw[eNd,yB];rfl
 have wc:WK (.agg (vM ts p raw (.mk op o i ks q) J lp)) (.agg (vM ts p raw (.mk op o i ks q) J lp)) := .hf (qtA ts p raw _ J lp);rw[a7]at wc a0;rw[af];generalize hn:Nd.mk op o i ks q=n at *
 have wn:WK (.agg [aI op,aS o,aI i,.lst false (ks.map cNd),aI q]) (eNd n):=by rw[<-ag];exact .hf (qL n)
 have a1:WK (.agg [.lst false (ts.sS.map vH),.lst false (ts.sA.map jq),lPd ts.sT,lFa ts.sP]) (eTS ts) := .hf (zn ts);have a2:WK (.agg [lI p.sC,aI 1]) (eSc p):=by rw[<-I];exact .hf (zr p)
 refine qSQ call4 func4 rfl { mt:=[1] } ?_;simp[go_sem];refine fR JP.headM .nil ?_;refine cQ a0 (.cons wc .nil) ?_;cases a8:ok29 ts p raw n with
 |false =>
  simp[go_sem,tupM];exact .zsc _
 |true =>
 simp only[tupM,reduceIte];obtain⟨X,a3,an⟩:=hx a8;rw[show p.sN.toNat=1 by rw[I];rfl]at X;generalize hb:z8 ts p raw=b at *
 have wb:WK (lBd b) (lBd b) := .hf (jr b);clear a0 hx a8;have c0:=anyU ts p X.F X.h5 [] 0 zOm;have c1:=anyU ts p X.F X.h5 [qO 800 true] 0 zOm;have n0:=qfS X a3 [] 0 zOm;have n1:=qfS X a3 [qO 800 true] 0 zOm;have m1:=minU X a3;have x1:=maxU X a3;have sub:=(Cx.Z6 (ts:=ts) (sc:=p) (b:=b) (N:=1) (n:=n)).subset;obtain⟨q1,q2,q3⟩:=ext29 X sub (MV ts p b 1 n).2 (qO 800 true) (fun x hx=>(List.mem_replicate.1 hx).2) zSp;have r1:=pb (fun x=>1*szS x.sK) (fun x=>yo x (anyM p (vsT ts) (defB ts p) [] (0 % p.sN))) (MV ts p b 1 n).1 (MV ts p b 1 n).2;have r2:=pb (fun x => -1*szS x.sK) (fun x=>yo x (anyM p (vsT ts) (defB ts p) [] (0 % p.sN))) (MV ts p b 1 n).1 (MV ts p b 1 n).2;have r3:=pb (fun x=>yo x (anyM p (vsT ts) (defB ts p) [qO 800 true] (0 % p.sN))) (fun x=>yo x (anyM p (vsT ts) (defB ts p) [] (0 % p.sN))) (MV ts p b 1 n).1 (MV ts p b 1 n).2;have a5:∀ g:Md->Int,SmS (zN g (MV ts p b 1 n).1 (MV ts p b 1 n).2).1.sK/\(zN g (MV ts p b 1 n).1 (MV ts p b 1 n).2).1.sc.sC.length<=1000:=fun g=>by
  have hz:SmS mdZ.sK/\mdZ.sc.sC.length<=1000:=⟨JP.smZ,zDe⟩;unfold zN;split
  .exact hz
  .cases hL:(MV ts p b 1 n).1 with
   |nil=>exact hz
   |cons y l =>
    have hm:yQ g y l∈LL ts p b 1:=sub (by rw[hL];exact qe4 g l y);exact X.tiny (X.betw hm)
 have t1:=a5 fun x=>1*szS x.sK
 have t2:=a5 fun x => -1*szS x.sK
 clear a5 sub;rw[show (0:Int) % p.sN=0 by rw[I];rfl]at *
 generalize anyM p (vsT ts) (defB ts p) [] 0=A0 at *
 generalize anyM p (vsT ts) (defB ts p) [qO 800 true] 0=A1 at *
 generalize zN (fun x=>1*szS x.sK) (MV ts p b 1 n).1 (MV ts p b 1 n).2=k1 at *
 generalize zN (fun x => -1*szS x.sK) (MV ts p b 1 n).1 (MV ts p b 1 n).2=k2 at *
 generalize zN (fun x=>yo x A0) (MV ts p b 1 n).1 (MV ts p b 1 n).2=k3 at *
 generalize zN (fun x=>yo x A1) (MV ts p b 1 n).1 (MV ts p b 1 n).2=k4 at *
 obtain⟨k1,d1,f1⟩:=k1;obtain⟨k2,d2,f2⟩:=k2;obtain⟨k3,d3,f3⟩:=k3;obtain⟨k4,d4,f4⟩:=k4;simp only at q1 q2 q3 r1 r2 r3 t1 t2 m1 x1 n0 n1;subst q1;subst q2;subst r1;subst r2;subst r3;have z1:=qfP _ t1.1;have z2:=qfP _ t2.1;have e1:=KN _ k1 (k8 t1.1 t1.2);have e2:=KN _ k2 (k8 t2.1 t2.2);rw[decide_eq_true rfl]at e1 e2;simp[go_sem];have a9:∀ k:Nat,(qO (k+1) true).map F4.rB=(qO k true).map F4.rB++[F4.rB true]:=fun k=>by rw[List.replicate_succ',zb];rfl
 refine fB 800 (fun k=>Keep (fun U=>U.tm 1 = .ptr 0 0/\U.tm 3=aB true/\U.tm 4=lBd b/\U.tm 8=aI k/\U.mu[0]?=some (.arr [.lst false (ts.sS.map vH),.lst false (ts.sA.map jq),lPd ts.sT,lFa ts.sP,lI p.sC,aI 1,lRaw raw,aI op,aS o,aI i,.lst false (ks.map cNd),aI q,lBB J,u8 lp])/\Own U.mu 1 (U.tm 7) ((qO k true).map F4.rB)/\qo (U.tm 7)≠some 0) .mk) ?_ ?_
 .refine aK ⟨zSi,zSi,zSi,zSi,zSi,.inl zSi,by simp[go_sem,qo]⟩
 rintro k U hk hI;obtain⟨f1,f3,f4,f8,fm,ho,aa⟩:=hI;by_cases ah:k<800
 .have w1:=zWk k
  have hi:(k:Int)<800:=zOm;simp[go_sem,f8,hi];refine qz.ownB (e:=4) (sz:=1) (bt:=1) (zv:=aB false) (xs:=(qO k true).map F4.rB) (ys:=[F4.rB true]) zSi zSi zSi rfl rfl zOm zOm ho (by simp[qD]) (F4.un _) (F4.un [true]) zSo ?_;intro ao j a4 ai aj aq;rw[<-a9]at a4;have ak:=(qk.1 fm).1;simp[go_sem,f8,w1,Own.one a4,Own.cells a4];refine⟨ah,aK ⟨zS1 f1,zS1 f3,zS1 f4,zSi,?_,zVs a4,?_⟩⟩
  .simp only[qC];rw[ai 0 ak aa];exact fm
  .intro h;have:=aj 0 (zVs h);omega
 .have hi:¬(k:Int)<800:=by omega
  obtain rfl:k=800:=zOm;simp[go_sem,f8];refine FzQ.ownB (d:=7) (av:=U.tm 7) zSi ho (F4.un _) (fun r hr c hc=>by obtain⟨x,_,rfl⟩:=qn.1 hr;simp at hc;subst hc;exact HF.sc _) fun ab full al ad=>?_
  have h0:ab[0]?=some (.arr [.lst false (ts.sS.map vH),.lst false (ts.sA.map jq),lPd ts.sT,lFa ts.sP,lI p.sC,aI 1,lRaw raw,aI op,aS o,aI i,.lst false (ks.map cNd),aI q,lBB J,u8 lp]):=by rw[ad 0 aa];simpa[go_sem] using fm
  clear ad al;cases ab with
  |nil=>simp at h0
  |cons d C =>
  simp only[List.getElem?_cons_zero,Option.some.injEq]at h0;subst h0;have P:∀ c l,(C++c :: l)[C.length]?=some c:=fun c l=>zSp
  have g1:∀ c d l,(C++c :: d :: l)[C.length+1]?=some d:=fun c d l=>zSp
  have R:∀ c d e l,(C++c :: d :: e :: l)[C.length+2]?=some e:=fun c d e l=>zSp
  have g3:∀ c d e f l,(C++c :: d :: e :: f :: l)[C.length+3]?=some f:=fun c d e f l=>zSp
  have wM:WKs [.agg [.lst false (ts.sS.map vH),.lst false (ts.sA.map jq),lPd ts.sT,lFa ts.sP],.agg [lI p.sC,aI 1],lBd b,.agg [aI op,aS o,aI i,.lst false (ks.map cNd),aI q]] [eTS ts,eSc p,lBd b,eNd n] := .cons a1 (.cons a2 (.cons wb (.cons wn .nil)));have wN:∀ x,WKs [.agg [.lst false (ts.sS.map vH),.lst false (ts.sA.map jq),lPd ts.sT,lFa ts.sP],.agg [lI p.sC,aI 1],lBd b,.agg [aI op,aS o,aI i,.lst false (ks.map cNd),aI q],eMd x] [eTS ts,eSc p,lBd b,eNd n,eMd x]:=fun x => .cons a1 (.cons a2 (.cons wb (.cons wn (.zk (yx x) .nil))))
  have w2:∀ x:Md,WKs [eMd x,eMd x] [eMd x,eMd x]:=fun x => .zk (yx x) (.zk (yx x) .nil)
  have w3:∀ x:Md,WKs [eMd x] [eMd x]:=fun x => .zk (yx x) .nil
  have w8:WKs [.agg [.lst false (ts.sS.map vH),.lst false (ts.sA.map jq),lPd ts.sT,lFa ts.sP],.agg [lI p.sC,aI 1],.lst true [[.lst full ((qO 800 true).map F4.rB)]],u8 0] [eTS ts,eSc p,lBB [qO 800 true],u8 0] := .cons a1 (.cons a2 (.cons (wF ⟨.cons (WK.lst fun r hr c hc=>by obtain⟨x,_,rfl⟩:=qn.1 hr;simp at hc;subst hc;exact HF.sc _) .nil,trivial⟩) (.zs .nil)));have w0:WKs [.agg [.lst false (ts.sS.map vH),.lst false (ts.sA.map jq),lPd ts.sT,lFa ts.sP],.agg [lI p.sC,aI 1],.lst true [],u8 0] [eTS ts,eSc p,lBB [],u8 0] := .cons a1 (.cons a2 (.cons (WK.lst fun r hr=>absurd hr qH) (.zs .nil)));simp[go_sem,f1,f3,f4,P,g1,R,g3];refine cQ m1 wM ?_;simp[go_sem,f1,f3,f4,P,g1,R,g3];refine cQ x1 wM ?_;simp[go_sem,f1,f3,f4,P,g1,R,g3];refine cH zKr ?_;simp[go_sem,f1,f3,f4,P,g1,R,g3];refine cQ c0 w0 ?_;simp[go_sem,f1,f3,f4,P,g1,R,g3]
  first|refine cQ n0 (wN _) ?_ | (refine cH zKr ?_;simp[go_sem,f1,f3,f4,P,g1,R,g3,q3];refine cQ n0 (wN _) ?_)
  simp[go_sem,f1,f3,f4,P,g1,R,g3,q3]
  first|refine cQ c1 w8 ?_ | (refine cH zKr ?_;simp[go_sem,f1,f3,f4,P,g1,R,g3,q3];refine cQ c1 w8 ?_)
  simp[go_sem,f1,f3,f4,P,g1,R,g3,q3]
  first|refine cQ n1 (wN _) ?_ | (refine cH zKr ?_;simp[go_sem,f1,f3,f4,P,g1,R,g3,q3];refine cQ n1 (wN _) ?_)
  simp[go_sem,f1,f3,f4,P,g1,R,g3,q3]
  first|refine cQ e1 (w2 _) ?_ | (refine cH zKr ?_;simp[go_sem,f1,f3,f4,P,g1,R,g3,q3];refine cQ e1 (w2 _) ?_)
  simp[go_sem,f1,f3,f4,P,g1,R,g3,q3]
  first|refine cQ e2 (w2 _) ?_ | (refine cH zKr ?_;simp[go_sem,f1,f3,f4,P,g1,R,g3,q3];refine cQ e2 (w2 _) ?_)
  simp[go_sem,f1,f3,f4,P,g1,R,g3,q3]
  first|refine cQ z1 (w3 _) ?_ | (refine cH zKr ?_;simp[go_sem,f1,f3,f4,P,g1,R,g3,q3];refine cQ z1 (w3 _) ?_)
  simp[go_sem,f1,f3,f4,P,g1,R,g3,q3]
  first|refine cQ z2 (w3 _) ?_ | (refine cH zKr ?_;simp[go_sem,f1,f3,f4,P,g1,R,g3,q3];refine cQ z2 (w3 _) ?_)
  simp[go_sem,f1,f3,f4,P,g1,R,g3,q3];exact .zsc _
end W48
namespace DL
open Go.EvW Go.RowKit Go.ChangeShapes Go.WideShapes
theorem own:ownKnob qe.godebug=none:=by kernel_rfl
theorem laid:laidOutB qe=true:=by kernel_rfl
abbrev tabL : List (String × DataW Unit) := [("math/bits.deBruijn32tab", Rows.laid_math_bits_deBruijn32tab), ("math/bits.deBruijn64tab", Rows.laid_math_bits_deBruijn64tab), ("internal/strconv.uint64pow10", Rows.laid_internal_strconv_uint64pow10)]
def pows:List Int:=[1,10,100,1000,10000,100000,1000000,10000000,100000000,1000000000,10000000000,100000000000,1000000000000,10000000000000,100000000000000,1000000000000000,10000000000000000,100000000000000000,1000000000000000000,10000000000000000000]
theorem gPow : qe.globalNamed "internal/strconv.uint64pow10" = some 0 := by kernel_rfl
theorem tPow:(qe.globals[0]?).map (·.type)=some 360:=by kernel_rfl
theorem uPow:qe.underlying 360=some (.array 20 330):=by kernel_rfl
theorem uU64:qe.underlying 330=some (.int .u64):=by kernel_rfl
theorem qtE{W}(h:laidMetH qe tabL W):Zz (·<W.heap.size) W.heap:=by
  rw[MakeChecks.laidMetH_plain _ _ _ zKr]at h;obtain⟨ps,I,_⟩:=h
  obtain ⟨g, t, l, o, p, J, P, R, T⟩ := qcH I ("internal/strconv.uint64pow10", Rows.laid_internal_strconv_uint64pow10) zSp
  obtain rfl:=Option.some.inj (gPow.symm.trans J);obtain rfl:=Option.some.inj (tPow.symm.trans P);have U:l.toList=pows.map fun i => .int .u64 i:=qo3 uPow uU64 zKr zKr (ns:=pows) T
  obtain⟨e,fr,C⟩:=qo4 gPow R;intro x j;have j:x∈[(0,pows.map fun i=>Value.int .u64 i)]:=j;rw[qV]at j;subst j;refine⟨(Array.getElem?_eq_some_iff.1 C).1,e,fr,?_⟩;show W.heap[0]?=_;rw[C];have:l=(pows.map fun i=>Value.int .u64 i).toArray:=by rw[<-U]
  rw[this]
theorem qtF(os args):laidMetH qe tabL ((World.doorLaid qe 4000 os).forCall (fun _ _=>0) ⟨#[],args,[]⟩).memory:=
 laidMetH_of_parts3 (fuel:=8) (laidMet_of_run' 8 zKr zKr) zKr zKr
end DL
namespace DM
open Go.EvW E3 DT
instance:Inhabited Rl:=⟨⟨0,[]⟩⟩
instance:Inhabited Sc:=⟨⟨[],0⟩⟩
instance:Inhabited Md:=⟨⟨default,[],0⟩⟩
theorem shRel(N):ShU qe N 96 cRel (fun _=>True):=
 ((ShU.struct (fs:=[(3,0),(28,1)]) zKr (.cons' (o':=1) zKr (Z2 N) (.cons' (o':=2) zKr (K3 N) (.nil 2))) zKr).map
  (fun x=>(⟨x.1,x.2.1⟩:Rl)) (fun _=>rfl) (fun x h=>trivial)).le zOm
theorem qtG(N):ShU qe N 30 (fun s:Sc=>[lI s.sC,aI s.sN]) (fun _=>True):=
 ((ShU.struct (fs:=[(28,0),(3,1)]) zKr (.cons' (o':=1) zKr (K3 N) (.cons' (o':=2) zKr (Z2 N) (.nil 2))) zKr).map
  (fun x=>(⟨x.1,x.2.1⟩:Sc)) (fun _=>rfl) (fun x h=>trivial)).le zOm
end DM
namespace DN
open Go.EvW P1 Y1 EO DT GS W41
theorem qtH:qe.underlying 58=some (.slice 4):=by kernel_rfl
theorem unBB:qe.underlying 36=some (.slice 58):=by kernel_rfl
theorem unU8s:qe.underlying 115=some (.slice 5):=by kernel_rfl
theorem unRaw:qe.underlying 32=some (.slice 115):=by kernel_rfl
theorem qtI(N):ShU qe N 58 (fun l:List Bool=>[lB l]) (fun _=>True):=
 ((ShU.slice qtH (K2 N) (fun _ _=>zKr) (Nat.lt_of_lt_of_eq Nat.zero_lt_one zKr) zKr).le zOm).map (fun l=>l) (fun _=>rfl) fun _ _=>trivial
theorem shBB(N):ShU qe N 36 (fun l:List (List Bool)=>[lBB l]) (fun _=>True):=
 ((ShU.slice unBB (qtI N) (fun _ _=>zKr) (Nat.lt_of_lt_of_eq Nat.zero_lt_one zKr) zKr).le zOm).map (fun l=>l) (fun _=>rfl) fun _ _=>trivial
abbrev Wv:=TS×Sc×List (List Int)×Nd×List (List Bool)×Int
abbrev cCs(x:Wv):List AV:=vM x.1 x.2.1 x.2.2.1 x.2.2.2.1 x.2.2.2.2.1 x.2.2.2.2.2
end DN
namespace DO
open Go.EvW DT DM DN W41
def qfT(l:List Int):Prop:=∀ x,x∈l->0<=x/\x<=255
def qfU(r:List (List Int)):Prop:=∀ l,l∈r->qfT l
theorem shU8r(N):ShU qe N 115 (fun l:List Int=>[.lst false (l.map fun x=>[u8 x])]) qfT:=
 ((ShU.slice unU8s (shU8 N) (fun _ _=>zKr) (Nat.lt_of_lt_of_eq Nat.zero_lt_one zKr) zKr).le zOm).map (fun l=>l) (fun _=>rfl) fun _ h=>h.2
theorem qtJ(N):ShU qe N 32 (fun l:List (List Int)=>[lRaw l]) qfU:=
 ((ShU.slice unRaw (shU8r N) (fun _ _=>zKr) (Nat.lt_of_lt_of_eq Nat.zero_lt_one zKr) zKr).le zOm).map (fun l=>l) (fun _=>rfl) fun _ h=>h.2
def okCs(x:Wv):Prop:=okTA x.1/\qfU x.2.2.1/\(0<=x.2.2.2.2.2/\x.2.2.2.2.2<=255)
theorem qtK(N):ShU qe N 38 cCs okCs:=
 ((ShU.struct (fs:=[(27,0),(30,4),(32,6),(35,7),(36,12),(5,13)]) zKr
  (.cons' (o':=4) zKr (qpJ N) (.cons' (o':=6) zKr (qtG N) (.cons' (o':=7) zKr (qtJ N) (.cons' (o':=12) zKr (U4 N) (.cons' (o':=13) zKr (shBB N) (.cons' (o':=14) zKr (shU8 N) (.nil 14))))))) zKr).map
  (fun x=>((x.1,x.2.1,x.2.2.1,x.2.2.2.1,x.2.2.2.2.1,x.2.2.2.2.2.1):Wv)) (fun x=>by simp[cCs,vM]) (fun x h=>⟨h.1,h.2.2.1,h.2.2.2.2.2.1⟩)).le zOm
theorem qtL:Vl qe 38 (fun x => .agg (cCs x)) okCs:=Vl.struct zKr qtK
end DO
end Go.Proofs.YtipbakanneogpaaGreatDoor
