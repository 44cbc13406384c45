/-
  Own library, part 9: an abstract reading of values and a calculus over it; contracts of functions; plain lemmas.
-/
import Derived.Test.YthflbhjlkgdafaaGreatDoorRows
import Derived.LaidMore
import Derived.MakeChecks
import Derived.WalkKit
import Derived.JoinedCond
import Derived.Test.YthflbhjlkgdafaaGreatDoorMh
set_option linter.unusedVariables false
set_option linter.unusedSimpArgs false
set_option maxRecDepth 100000
set_option maxHeartbeats 1000000
open Go renaming Program->qc,World->qf,Value->yc
open Go.Proofs.Tryz renaming prog->qd
open List renaming getElem?_eq_some_iff->qj,mem_map->qn,range->qr,getElem_mem->qv,getElem?_eq_getElem->qw,getElem?_set_self->qH,getElem?_append_left->qI,mem_append->qJ,not_mem_nil->qN,mem_singleton->qQ,mem_cons_of_mem->qU,mem_of_getElem?->qX,all_eq_true->qY,take_length->q8,map_append->zh,mem_cons_self->zj,getD_eq_getElem?_getD->zr,getElem?_append_right->zN,append_nil->zV,length_map->zX,length_cons->yp,cons_append->yD,nil_append->jp,ext_getElem?->j7,mem_of_mem_take->vM,length_take->vO,getElem?_eq_none->uy,mem_iff_getElem->uW,getElem_map->Zs
open Nat renaming le_refl->qk
open Go.IntKind renaming i64->qm
open Bool renaming and_eq_true->qB
open Int renaming tmod_eq_emod_of_nonneg->ui
namespace Go.Proofs.YthflbhjlkgdafaaGreatDoor
open Go Go.Ev Go.Proofs Tryz
namespace OF
open Y1 Y9 P1 P2 PA YE YF E1 E4 EO F4 GF GR KA KF KR O0 O7 O8 OC OD YG KE EQ ER F6 O4 O9 OE
section
variable {ts:TS}
theorem tU{P mu}{t g e sz bt:Nat}{full ys zv K}(p:qD P t=some (e,sz,bt))(i:(qD P g).isSome=true)(C:qA P e=some zv)
  (j:zv.cells.length=sz) (l:zv.cells.all AV.one=true) (o:sz≠0) (I:bt<=16384) (J:qS sz ys) (R:ys.length<=4294967296) (T:ys=[]->K (.lst true []) mu) (k:ys≠[]->K (.sl mu.length sz 0 ys.length) (mu++[.arr ys.flatten])):qu P mu #[t,g] (.lst true []) (.lst full ys) K:=by
 refine .inl ⟨t,g,e,sz,bt,ys,rfl,p,i,⟨zv,C,j,l⟩,o,I,by simp[qy],J,.inl ⟨[],rfl,fun r U=>by simp at U,zUs R,fun h=>?_,fun h=>?_⟩⟩
 .exact T h
 .have:=k h
  simpa using this
def CloB(mu m:Mu)(bv:AV)(bs:List Bd):Prop:=MuLe mu m/\((bv = .lst true []/\bs=[])\/∃ q,bv = .sl q 4 0 bs.length/\m[q]?=some (.arr (bs.map cBd).flatten)/\mu.length<=q)
theorem qrN(mu bs)(i:bs.length<=1000000000):qz qd 62 [lBd bs] mu fun e m=>∃ bv,e = .ret bv/\CloB mu m bv bs:=by
 refine qSW call62 func62 rfl {} ?_;have g:=Vu bs;cases bs with
 |nil =>
  simp[go_sem,lBd];refine⟨⟨MuLe.refl _,.inl ⟨rfl,rfl⟩⟩,?_⟩;refine tU (sz:=4) (e:=44) (bt:=64) (zv := .agg cZ4) (ys:=[]) zSi zSi zSi rfl rfl zOm zOm g zSp (fun _=>?_) (fun h=>absurd rfl h);simp[go_sem];exact⟨MuLe.refl _,.inl ⟨rfl,rfl⟩⟩
 |cons x l =>
  simp[go_sem,lBd];refine tU (sz:=4) (e:=44) (bt:=64) (zv := .agg cZ4) (ys:=(x :: l).map cBd) zSi zSi zSi rfl rfl zOm zOm g (by simp at i⊢;omega) (fun h=>by cases h) (fun _=>?_);simp[go_sem];exact⟨MuLe.app (MuLe.refl _) _,.inr ⟨mu.length,zSp,zSp,qk _⟩⟩
def appR(l:List Nd):Except Int (List Nd)->Except Int (List Nd)
 | .ok r => .ok (l++r)
 | .error e => .error e
theorem qeR(x):appR [] x=x:=by cases x<;>rfl
theorem qeT(ts l n k):appR l (jZ ts (n :: k))=if (zp ts n).2=0 then appR (OE.addL ts n l) (jZ ts k) else .error (zp ts n).2:=by
 rw[jZ];by_cases h:(zp ts n).2=0
 .rw [if_pos h,if_pos h]
  unfold OE.addL;rw[if_pos h];cases jZ ts k with
  |ok r=>simp[appR]
  |error e=>rfl
 .rw [if_neg h,if_neg h];rfl
structure InlI (ts:TS) (n:Nd):Prop where
 ci:qh qd 60 [eTS ts,eNd n] (.tup [eNd (zp ts n).1,aI (zp ts n).2])
 wf:(zp ts n).2=0->WfN (zp ts n).1/\cntT (zp ts n).1<=400
 ty:(zp ts n).2=0->TyL (arT ts) (conj (zp ts n).1)
theorem Up{n}(g:InlI ts n)(l):(OE.addL ts n l).length<=l.length+400:=by
 unfold OE.addL;split
 .rename_i i
  obtain⟨j,o⟩:=g.wf i;have p:=Jn _ _ (qk _) j;rw[List.length_append];omega
 .omega
theorem qeU:∀ m n,szN n<=m->WfN n->Al n
 | 0,n,j,_=>by obtain⟨op,nm,i,ks,q⟩:=n;simp[szN]at j
 |m+1,n,j,l=>by
  by_cases o:n.op=48
  .obtain ⟨a,g⟩:=shp1 l o
   have p:=qZ (n:=n) (k:=a) (by rw[g];simp);exact .step o g (qeU m a zOm (l.kid (by rw[g];simp)))
  .exact .leaf o
theorem Wk:∀ m n,szN n<=m->WfN n->∀ y,y∈conj n->Al y
 | 0,n,t,_=>by obtain⟨op,nm,i,ks,q⟩:=n;simp[szN]at t
 |m+1,n,t,j=>fun y l=>by
  by_cases o:n.op=41
  .obtain ⟨a,b,g⟩:=shp2 j o
   have I:=qZ (n:=n) (k:=a) (by rw[g];simp);have P:=qZ (n:=n) (k:=b) (by rw[g];simp);rw[OD.kQ o g]at l;rcases qJ.1 l with h|h
   .exact Wk m a zOm (j.kid (by rw[g];simp)) y h
   .exact Wk m b zOm (j.kid (by rw[g];simp)) y h
  by_cases p:n.op=48
  .obtain ⟨a,g⟩:=shp1 j p
   have I:=qZ (n:=n) (k:=a) (by rw[g];simp);rw[kR p g]at l;obtain⟨z,J,rfl⟩:=qn.1 l;have C:=Wk m a zOm (j.kid (by rw[g];simp)) z J;unfold jn;split
   .exact C
   .exact .step rfl rfl C
  .rw [kS o p,qQ]at l
   subst l;exact qeU _ _ (qk _) j
theorem qeV:∀(a){l},(∀ n,n∈a->InlI ts n)->jZ ts a = .ok l->∀ y,y∈l->Al y
 | [],l,_,e=>by cases e;exact fun n j=>absurd j qN
 |n :: a,l,i,e=>by
  rw[jZ]at e;split at e
  .rename_i o
   split at e
   .rename_i r p
    cases e;have t:=qeV a (fun x g=>i x (qU _ g)) p;have C:=((i n (zj ..)).wf o).1;exact fun x g=>(qJ.1 g).elim (Wk _ _ (qk _) C x) (t x)
   .cases e
  .cases e
theorem qeW:∀(a){l},(∀ n,n∈a->InlI ts n)->jZ ts a = .ok l->TyL (arT ts) l
 | [],l,_,e=>by cases e;exact fun n j=>absurd j qN
 |n :: a,l,i,e=>by
  rw[jZ]at e;split at e
  .rename_i o
   split at e
   .rename_i r p
    cases e;have t:=qeW a (fun x g=>i x (qU _ g)) p;have C:=(i n (zj ..)).ty o;exact fun x g=>(qJ.1 g).elim (C x) (t x)
   .cases e
  .cases e
def outF:Except Int (List Bd)->AV
 | .ok x => .tup [lBd x,aI 0]
 | .error e => .tup [lBd [],aI e]
theorem Rd.tups{mu xs ys}(h:Rds mu xs ys):Rd mu (.tup xs) (.tup ys) := .tup _ _ h.get.1 h.get.2
theorem k5(mu e):Rd mu (.tup [.lst true [],aI e]) (outF (.error e)):=Rd.tups ⟨.wk _ true _ (.hf _ (HF.lst fun r g=>by simp at g)),.hf _ (HF.sc _),trivial⟩
theorem qrO{sc bs}(C:NwC ts sc)(aw:ts.sP.length<=1000000)(hB:BdS ts (sumI sc.sC) bs){n}(hI:∀ m,m∈ts.sP.map Prod.snd++[n]->InlI ts m):qh qd 21 [eTS ts,eSc sc,lBd bs,eNd n] (outF (fixL ts sc bs n)):=by
 have hn:=hI n zSp;have hF:fixL ts sc bs n=(match appR [] (jZ ts (ts.sP.map Prod.snd++[n])) with
  | .error e => .error e
  | .ok l=>match fixN ts sc l (gapL bs+1) bs with
   |none => .error 100
   |some x => .ok x):=by rw[qeR];rfl
 have a6:appR [] (jZ ts (ts.sP.map Prod.snd++[n]))=jZ ts (ts.sP.map Prod.snd++[n]):=qeR _;rw[hF];generalize hR:appR [] (jZ ts (ts.sP.map Prod.snd++[n]))=R;refine qSQ call21 func21 rfl { mt:=[46] } ?_;simp[go_sem];refine aP ts.sP.length (fun k U=>U.tm 2=lBd bs/\U.tm 4 = .ip (cTS ts)/\U.tm 5 = .ip [lI sc.sC,aI sc.sN]/\U.tm 7 = .ip (cNd n)/\U.tm 10 = .ptr 0 0/\U.tm 11 = .fn (.func 61) [] [.ip (cTS ts),.ptr 0 0]/\U.tm 19=lFa ts.sP/\U.tm 20=aI ts.sP.length/\U.tm 21=aI k
  /\ ∃ l,Lst U.mu 0 l/\l.length<=400*k/\appR l (jZ ts ((ts.sP.map Prod.snd).drop k++[n]))=R) ?_ ?_
 .refine ⟨zSi,zSi,zSi,zSi,zSi,zSi,zSi,zSi,zSi,[],⟨.lst true [],zSi,.inl rfl,by simp[qo]⟩,zSp,hR⟩
 rintro k U ax ⟨e2,e4,e5,e7,p,J,T,a0,a1,l,hL,ay,j⟩;have ag:∀ c:Cell,Lst (U.mu++[c]) 0 l:=fun c=>by
  obtain⟨lv,o,I,h3⟩:=hL;refine⟨lv,by rw[qI (qj.1 o).1];exact o,?_,h3⟩;rcases I with h|⟨b,h4,h5⟩
  .exact .inl h
  .exact .inr ⟨b,h4,by rw[qI (qj.1 h5).1];exact h5⟩
 by_cases a2:k<ts.sP.length
 .have w1:=zWk k
  have a7:k<(ts.sP.map Prod.snd).length:=zUs a2;rw[List.drop_eq_getElem_cons a7,yD,qeT]at j;have hv:=hI _ (List.mem_append_left _ (List.mem_map_of_mem (qv a2)));simp only[Zs]at j;generalize hf:ts.sP[k]=f at *
  obtain⟨fn,fb⟩:=f;simp only at hv j;have ca:=addM hv.ci hv.wf zOm (ag (.arr (cFa (fn,fb))));have al:=Up hv l;simp[go_sem,e2,e4,e5,e7,p,J,T,a0,a1,a2,hf];refine fH ca (fun r m h=>?_) (fun r m h=>by cases h.1);obtain⟨o,I⟩:=h;cases o;by_cases he:(zp ts fb).2=0
  .rw [if_pos he]at j
   simp[go_sem,e2,e4,e5,e7,p,J,T,a0,a1,he,w1]
   try refine⟨a2,aM ?_⟩
   try refine aM ?_
   refine⟨zS1 e2,zS1 e4,zS1 e5,by simp[go_sem,e7],zS1 p,zS1 J,zS1 T,zS1 a0,zSi,OE.addL ts fb l,zVs I,zOm,j⟩
  .rw [if_neg he]at j
   subst j;simp[go_sem,he];exact k5 _ _
 .have ah:k=ts.sP.length:=by omega
  subst ah;rw[List.drop_of_length_le zSp,jp,qeT]at j;have ca:=addM hn.ci hn.wf zOm hL;have al:=Up hn l;simp[go_sem,e2,e4,e5,e7,p,J,T,a0,a1];refine fH ca (fun r m h=>?_) (fun r m h=>by cases h.1);obtain⟨o,I⟩:=h;cases o;by_cases he:(zp ts n).2=0
  .rw [if_pos he]at j
   rw[jZ]at j;simp only[appR,zV]at j;subst j;simp[go_sem,e2,e4,e5,e7,p,J,T,a0,a1,he];have ty:=qeW _ hI (a6.symm.trans hR);have ai:=qeV _ hI (a6.symm.trans hR);generalize OE.addL ts n l=L at *
   refine fG [0,1,2,4,3,5,6,7,8] [(0,0,[]),(1,0,[]),(2,0,[]),(4,0,[]),(3,1,[0,1,4]),(5,1,[0,1]),(6,0,[]),(7,1,[]),(8,0,[])] zKr zKr zSi ?_;simp[go_sem,e2,e4,e5,e7,p];refine aA (qrN m bs (zW2 C.nf hB.b.1)) (fun r m3 h=>?_) (fun r m3 h=>by obtain⟨_,h,_⟩:=h;cases h);obtain⟨bv,o,a4,a3⟩:=h;cases o;simp[go_sem,e2,e4,e5,e7,p];refine t7 (Yt sc C.W.s.g) (.zk (zF _) .nil) ?_;have aj:r.cells=[r]:=by rcases a3 with ⟨h,_⟩|⟨q,h,_⟩<;>rw[h]<;>rfl
   have ak:r.one=true:=by rcases a3 with ⟨h,_⟩|⟨q,h,_⟩<;>rw[h]<;>rfl
   obtain⟨lv,an,ho,az⟩:=I;have ao:=a4 _ _ an;have a5:∀ c:Cell,(m3++[c])[0]?=some (.arr [lv]):=fun c=>zB ao [c]
   have a8:∀(c:Cell)(h:0<(m3++[c]).length),(m3++[c])[0] = .arr [lv]:=fun c h=>by
    have:=a5 c;rw[qw h]at this;exact Option.some.inj this
   simp[go_sem,e2,e4,e5,e7,p,aj,ak,a5,a8];have hN:NsW (m3++[.arr (cNs ts sc r (sumI sc.sC) false)]) m3.length r ts sc bs false:=⟨zSp,by
    rcases a3 with h|⟨q,h,hq,hl⟩
    .exact .inl h
    .exact .inr ⟨q,h,zB hq _,by have:=(qj.1 hq).1;omega⟩⟩
   have a9:Own (m3++[.arr (cNs ts sc r (sumI sc.sC) false)]) 5 lv (L.map cNd):=by
    rcases ho with h|⟨b,o,I⟩
    .exact .inl h
    .exact .inr ⟨b,o,zB (a4 _ _ I) _⟩
   have aq:∀ b,qo lv=some b->b<m.length:=fun b e=>by
    rcases ho with h|⟨b',o,I⟩
    .rw [h]at e;cases e
    .rw [o]at e;cases e;exact(qj.1 I).1
   have ar:∀ b,qo r=some b->m.length<=b:=fun b e=>by
    rcases a3 with ⟨h,_⟩|⟨q,h,_,hl⟩
    .rw [h]at e;cases e
    .rw [h]at e;cases e;exact hl
   have b0:=MuLe.len a4;generalize aa:(m3++[Cell.arr [lSo ts.sS,lFl ts.sA,lPd ts.sT,lFa ts.sP,lI sc.sC,aI sc.sN,r,AV.sc (Value.int qm (sumI sc.sC)),AV.sc (Value.bool false)]])=M;have ab:m3++[Cell.arr (cNs ts sc r (sumI sc.sC) false)]=M:=aa;rw[ab]at hN a9;clear aa ab a5 a8;generalize m3.length=P at *
   let gv:Nat->Bool:=fun i=>!(decide (i=P)||decide (qo r=some i))
   have au:NsW (cutM (fun i=>!gv i) M 0) P r ts sc bs false:=by
    refine⟨?_,?_⟩
    .rw [jy,hN.st];simp[gv]
    .rcases hN.ow with h|⟨q,o,I,h3⟩
     .exact .inl h
     .exact .inr ⟨q,o,by rw[jy,I];simp[gv,o,qo],h3⟩
   have ad:Own (cutM gv M 0) 5 lv (L.map cNd):=by
    rcases a9 with h|⟨b,o,I⟩
    .exact .inl h
    .refine .inr ⟨b,o,?_⟩
     have b1:=aq b (by rw[o];rfl);rw[jy,I];have g1:b≠P:=zOm;have g2:qo r≠some b:=fun e=>zW1 (ar b e)
     simp[gv,g1,g2]
   have cf:=fixM C ty ai zOm (full:=false) au hB;have cz:=fU (args:=[.ptr P 0,lv]) (args1:=[.ptr P 0,.lst false (L.map cNd)]) gv ⟨.inl rfl,.inr (Own.rd ad (Y1.Yj L).ok fun r hr c hc=>by
     obtain⟨x,_,rfl⟩:=qn.1 hr;exact jE x c hc),trivial⟩ cf
   generalize fixN ts sc L (gapL bs+1) bs=FX at *
   refine aA cz (fun r2 m4 h=>?_) (fun r2 m4 h=>?_)
   .obtain ⟨ae,t⟩:=h
    cases FX with
    |none =>
     cases t;simp[go_sem];exact k5 _ _
    |some x =>
     obtain⟨o,ch,af⟩:=t;cases o;simp[go_sem,af.st];exact Rd.tups ⟨af.r.bv.rd,.hf _ (HF.sc _),trivial⟩
   .obtain ⟨ae,t⟩:=h
    cases FX with
    |none=>cases t
    |some x=>cases t.1
  .rw [if_neg he]at j
   subst j;simp[go_sem,he];exact k5 _ _
end
end OF
namespace HE
end HE
namespace HF1
open GB
theorem qrP{a b:Ed}:a=b↔a.kind=b.kind/\a.state=b.state/\a.field=b.field/\a.tup=b.tup:=by
 cases a;cases b;simp
instance:DecidableEq Ed:=fun a b=>decidable_of_iff _ qrP.symm
end HF1
namespace HG
end HG
namespace HH
end HH
namespace HI
theorem X1{C:Type}{p}{l:List C}{k}(h:k<l.length)(g:p l[k]=false):l.all p=false:=by
 cases e:l.all p with
 |false=>rfl
 |true=>rw[qY.1 e _ (qv h)]at g;cases g
theorem qrQ{C:Type}{p}{l:List C}(h:∀(i)(g:i<l.length),p l[i]=true):l.all p=true:=qY.2 fun x j=>by
 obtain⟨i,g,rfl⟩:=uW.1 j;exact h i g
end HI
namespace HJ
open YF P1 E1 E4 G5 HI
theorem k6{n r}(h:jv n r=true):zn r.ts:=by
 unfold jv at h;simp only[qB,decide_eq_true_eq]at h;exact h.2
def vB9(ts:TS)(sc:Sc)(f:Fld)(b:Bd):Bool:=decide (b.lo.ar=f.sS.length)&&(decide (b.up.ar=f.sS.length)&&(jv (sumI sc.sC) b.lo&&(jv (sumI sc.sC) b.up&&(inOk b.lo b.up&&inOk b.up ⟨f.sS.length,y7 sc f.sS⟩))))
theorem qrR(ts:TS)(sc bs)(g:GSc sc)(R:0<ts.sA.length->0<sumI sc.sC)(a2:ts.sA.length<=1000000)(hf:∀ f,f∈ts.sA->1<=f.sS.length/\f.sS.length<=3/\(∀ s,s∈f.sS->0<=s/\s<sc.sC.length)/\(y7 sc f.sS).length<=8000/\zn (y7 sc f.sS))
  (hb:∀ b,b∈bs->b.lo.ts.length<=1000000/\b.up.ts.length<=1000000):qh qd 33 [eTS ts,eSc sc,lBd bs] (aB (decide (bs.length=ts.sA.length)&&(ts.sA.zip bs).all fun p=>vB9 ts sc p.1 p.2)):=by
 refine qSV call33 func33 rfl ?_;by_cases T:bs.length=ts.sA.length
 case neg =>
  have a3:¬(bs.length:Int)=ts.sA.length:=zOm;simp[go_sem,T];exact .zsc _
 rw[decide_eq_true T,Bool.true_and];simp[go_sem,T];refine fW (Kk sc g) (.zk (zF _) .nil) ?_;refine aP bs.length (fun k U=>U.tm 2=lBd bs/\U.tm 3 = .ip (cTS ts)/\U.tm 4 = .ip [lI sc.sC,aI sc.sN]/\U.tm 7=aI (sumI sc.sC)/\U.tm 8=aI k/\∀(i:Nat)(h:i<k)(h1:i<ts.sA.length)(h2:i<bs.length),vB9 ts sc ts.sA[i] bs[i]=true) ?_ ?_
 .exact ⟨zSi,zSi,zSi,zSi,zSi,fun i h=>absurd h (Nat.not_lt_zero i)⟩
 rintro k U hk ⟨o,t,C,e7,I,P⟩;by_cases j:k<bs.length
 .have l:k<ts.sA.length:=by omega
  have hp:=R zOm;have w1:=zWk k;obtain⟨f1,f2,f3,f4,f5⟩:=hf _ (qv l);obtain⟨b1,b2⟩:=hb _ (qv j);have J:vB9 ts sc ts.sA[k] bs[k]=false->((ts.sA.zip bs).all fun p=>vB9 ts sc p.1 p.2)=false:=fun h=>X1 (k:=k) zSo (zUs h)
  by_cases c1:bs[k].lo.ar=ts.sA[k].sS.length
  case neg =>
   rw[J (by unfold vB9;rw[decide_eq_false c1];rfl)];simp[go_sem,o,t,C,e7,I,j,l,c1];exact .zsc _
  by_cases c2:bs[k].up.ar=ts.sA[k].sS.length
  case neg =>
   rw[J (by unfold vB9;rw[decide_eq_false c2];simp)];simp[go_sem,o,t,C,e7,I,j,l,c1,c2];exact .zsc _
  simp[go_sem,o,t,C,e7,I,j,l,c1,c2];refine t7 (mv (sumI sc.sC) bs[k].lo zOm) (.zs (.cons (by rw[<-c1];exact .hf (qs _)) .nil)) ?_;cases c3:jv (sumI sc.sC) bs[k].lo with
  |false =>
   rw[J (by unfold vB9;rw[c3];simp)];simp[go_sem,o,t,C,e7,I,j,l,c1,c2,c3];exact .zsc _
  |true =>
   simp[go_sem,o,t,C,e7,I,j,l,c1,c2,c3];refine t7 (mv (sumI sc.sC) bs[k].up zOm) (.zs (.cons (by rw[<-c2];exact .hf (qs _)) .nil)) ?_;cases c4:jv (sumI sc.sC) bs[k].up with
   |false =>
    rw[J (by unfold vB9;rw[c4];simp)];simp[go_sem,o,t,C,e7,I,j,l,c1,c2,c3,c4];exact .zsc _
   |true =>
    simp[go_sem,o,t,C,e7,I,j,l,c1,c2,c3,c4];refine tV zKr ?_;simp[go_sem,o,t,C,e7,I,j,l,c1,c2,c3,c4];refine t7 (in06 bs[k].lo bs[k].up zOm zOm (k6 c4)) (.cons (by rw[<-c1];exact .hf (qs _)) (.cons (by rw[<-c2];exact .hf (qs _)) .nil)) ?_;cases c5:inOk bs[k].lo bs[k].up with
    |false =>
     rw[J (by unfold vB9;rw[c5];simp)];simp[go_sem,o,t,C,e7,I,j,l,c1,c2,c3,c4,c5];exact .zsc _
    |true =>
     simp[go_sem,o,t,C,e7,I,j,l,c1,c2,c3,c4,c5];refine t7 (qmF sc g hp ts.sA[k].sS f1 f2 f3) (.zk (zF _) (.zk (zx _) .nil)) ?_;simp[go_sem,o,t,C,e7,I,j,l,c1,c2,c3,c4,c5];refine t7 (in06 bs[k].up ⟨ts.sA[k].sS.length,y7 sc ts.sA[k].sS⟩ zOm (by simp only;omega) f5) (.cons (by rw[<-c2];exact .hf (qs _)) (.zk (qs _) .nil)) ?_;cases c6:inOk bs[k].up ⟨ts.sA[k].sS.length,y7 sc ts.sA[k].sS⟩ with
     |false =>
      rw[J (by unfold vB9;rw[c6];simp)];simp[go_sem,o,t,C,e7,I,j,l,c1,c2,c3,c4,c5,c6];exact .zsc _
     |true =>
      have a0:vB9 ts sc ts.sA[k] bs[k]=true:=by unfold vB9;rw[c3,c4,c5,c6,decide_eq_true c1,decide_eq_true c2];rfl
      simp[go_sem,o,t,C,e7,I,j,l,c1,c2,c3,c4,c5,c6,w1]
      try refine⟨j,aM ?_⟩
      try refine aM ?_
      refine⟨zS1 o,zS1 t,zS1 C,by simp[go_sem,e7],zSi,fun i hi h1 h2=>?_⟩;by_cases h:i<k
      .exact P i h h1 h2
      .have:i=k:=by omega
       subst this;exact a0
 .have a1:((ts.sA.zip bs).all fun p=>vB9 ts sc p.1 p.2)=true:=qrQ fun i hi=>by
   simp only[List.length_zip]at hi;simp only[List.getElem_zip];exact P i zOm zOm zOm
  rw[a1];simp[go_sem,o,I,show ¬k<bs.length from j];exact .zsc _
end HJ
set_option maxHeartbeats 1000000
namespace OK
open Y1 P1 YF E1 GR O0 IB E9 KE Y16 Q2 Q4 Q8 FE O9 G5 GQ GW HJ OJ KV IF
def vBs(ts:TS)(sc:Sc)(bs:List Bd):Bool:=decide (bs.length=ts.sA.length)&&(ts.sA.zip bs).all fun p=>vB9 ts sc p.1 p.2
theorem Jo{n}(h:vw n=true):zT n=true:=by
 unfold vw at h;simp only[qB]at h;exact h.2
theorem Vv{ts sc bs n}(P:wL ts sc bs n)(o:∀ x,x∈ts.sS->x.1.size<=4611686018427387904):SpD ts:=by
 have j:=P.sh;simp only[shpB,qB,qY]at j;have i:∀ p,p∈ts.sT->zT p.body=true/\p.params.length<=4:=fun p g=>by
  have:=P.tp p g;simp only[prT,qB,decide_eq_true_eq]at this;exact⟨Jo this.1,this.2⟩
 have l:∀ f,f∈ts.sP->zT f.2=true:=fun f hf=>Jo (P.tf f hf)
 refine⟨⟨P.so,zW1 P.fl,zW1 P.pr,zW1 P.fa,o,fun f hf=>?_,fun p g=>?_⟩,fun p g=>vj (i p g).1,fun f hf=>vj (l f hf),fun p g=>(i p g).1,l⟩
 .have:=j.1 f hf
  simp only[fldB,qB,decide_eq_true_eq,qY]at this;exact⟨this.1.1,this.1.2,this.2⟩
 .refine ⟨zW1 ((i p g).2),fun x t=>?_⟩
  have:=j.2 p g;simp only[prB,qY,srt1,qB,decide_eq_true_eq]at this;exact this x t
def f10(ts:TS)(sc:Sc)(bs:List Bd)(n:Nd):Bool:=Vt ts sc bs n (uf ts) (jJ (spOf ts) sc) (vBs ts sc bs) (wkN 5 4 n) (qeG ts 5 4 n)
theorem X8(ts)(i:∀ x,x∈ts.sS->x.1.size<=4611686018427387904)(sc bs n):qh qd 7 [eTS ts,eSc sc,lBd bs,eNd n] (aB (f10 ts sc bs n)):=by
 refine qqX ts sc bs n _ _ _ _ _ (fun P=>(Vv P i).chk) (fun P=>qlJ (spOf ts) sc (zW1 P.at4)) (fun h=>m5 sc (UF h)) (fun P p l T C=>?_) (fun P=>kM 5 4 zOm zOm _ n (qk _) (vj (Jo P.tn)).small) (fun P p=>qqU (Vv P i) p 5 4 zOm zOm (Jo P.tn));have g:=UF l;have S:=Vv P i;simp only[jJ,qB,decide_eq_true_eq,qY]at l;obtain⟨⟨⟨⟨⟨j,U⟩,a3⟩,a4⟩,I⟩,a6⟩:=l;have j:sc.sC.length=ts.sS.length:=j;refine qrR ts sc bs g (fun t=>?_) (zW1 P.fl) (fun f hf=>?_) fun b J=>?_
 .have hf:=(S.h.fl _ (qv t)).2.2 _ (qv (n:=0) (zW1 ((S.h.fl _ (qv t)).1)))
  have o:sc.sC≠[]:=fun e=>by rw[e]at j;simp at j;omega
  have:=Ko o fun a R=>(I a R).1
  omega
 .obtain ⟨f1,f2,f3⟩:=S.h.fl f hf
  exact⟨f1,f2,fun s i=>zW1 (f3 s i),qmK sc g f.sS f2,qa2 _ _ _⟩
 .have:=qY.1 C b J
  simp only[sz1,qB,decide_eq_true_eq]at this;omega
structure F10 (ts:TS) (sc:Sc) (bs:List Bd) (n:Nd):Prop where
 P:wL ts sc bs n
 S:SpD ts
 k:uf ts=[]
 so:jJ (spOf ts) sc=true
 a5:sumI sc.sC<=5
 vb:vBs ts sc bs=true
 hn:zT n=true
theorem qrS{ts sc bs n}(t:∀ x,x∈ts.sS->x.1.size<=4611686018427387904)(h:f10 ts sc bs n=true):F10 ts sc bs n:=by
 simp only[f10,Vt,qB,decide_eq_true_eq,qY]at h;obtain⟨C,I,J,R,T,U,p,h8,h9,g,i,j,l,a0,o,a1,a2⟩:=h;have P:wL ts sc bs n:=⟨C,I,J,R,T,U,p,h8,h9,g⟩;exact⟨P,Vv P t,List.length_eq_zero_iff.1 i,j,l,o,Jo p⟩
namespace F10
variable {ts:TS} {sc:Sc} {bs:List Bd} {n:Nd}
theorem sz(F:F10 ts sc bs n):uR sc=true/\ts.sS.length=sc.sC.length:=by
 have h:=F.so;simp only[jJ,qB,decide_eq_true_eq,qY]at h;obtain⟨⟨⟨⟨⟨g,i⟩,j⟩,l⟩,o⟩,p⟩:=h;have g:sc.sC.length=ts.sS.length:=g;have i:ts.sS.length<=4:=i;refine⟨?_,g.symm⟩;simp only[uR,qB,decide_eq_true_eq,qY];exact⟨zOm,j,l,o,p⟩
theorem bnd(F:F10 ts sc bs n):BndV ts sc bs:=by
 have h:=F.vb;simp only[vBs,qB,decide_eq_true_eq,qY]at h;obtain⟨J,h⟩:=h;have p:∀(i:Nat)(g:i<bs.length)(l:i<ts.sA.length),vB9 ts sc ts.sA[i] bs[i]=true:=fun i g l=>by
  have P:i<(ts.sA.zip bs).length:=zSo;have:=h _ (qv P);simpa using this
 have I:∀ b,b∈bs->∃ f,f∈ts.sA/\vB9 ts sc f b=true:=fun b o=>by
  obtain⟨i,g,rfl⟩:=uW.1 o;exact⟨_,qv zOm,p i g zOm⟩
 refine⟨J,fun i g l=>?_,fun b o=>?_,fun b o t C=>?_,fun i g l t C=>?_⟩
 .have:=p i g l
  simp only[vB9,qB,decide_eq_true_eq]at this;exact⟨this.1,this.2.1⟩
 .obtain ⟨f,_,j⟩:=I b o
  simp only[vB9,qB,decide_eq_true_eq]at j;exact⟨k6 j.2.2.1,k6 j.2.2.2.1⟩
 .obtain ⟨f,_,j⟩:=I b o
  simp only[vB9,qB,decide_eq_true_eq]at j;have:=j.2.2.2.2.1;simp only[inOk,qY,decide_eq_true_eq]at this;exact this t C
 .have:=p i g l
  simp only[vB9,qB,decide_eq_true_eq]at this;have:=this.2.2.2.2.2;simp only[inOk,qY,decide_eq_true_eq]at this;exact this t C
theorem nws(F:F10 ts sc bs n):NwS ts sc:=by
 obtain⟨z,e⟩:=F.sz;have h:=F.so;simp only[jJ,qB,decide_eq_true_eq,qY]at h;exact⟨⟨UF F.so,e,fun a g=>(h.1.2 a g).1⟩,zW1 F.a5⟩
theorem nwc(F:F10 ts sc bs n):NwC ts sc:=⟨F.nws,zW1 F.P.fl,F.S.h.sl⟩
theorem fit9(F:F10 ts sc bs n):Fit9 ts sc:=by
 obtain⟨z,e⟩:=F.sz;have h:=F.so;simp only[jJ,qB,decide_eq_true_eq,qY]at h;obtain⟨⟨⟨⟨⟨J,R⟩,i⟩,j⟩,l⟩,T⟩:=h;have o:ts.sA≠[]->0<sumI sc.sC:=fun p=>by
  have t:0<ts.sA.length:=List.length_pos_iff.2 p;have hf:=F.S.h.fl _ (qv t);have U:=hf.2.2 _ (qv (n:=0) zOm);have g:sc.sC≠[]:=fun q=>by
   rw[q]at e;have e:ts.sS.length=0:=e;omega
  have:=Ko g fun a C=>(l a C).1
  omega
 exact⟨UF F.so,o,zW1 F.P.fl,e,i,j,fun f hf=>⟨(F.S.h.fl f hf).1,(F.S.h.fl f hf).2.1⟩,fun f hf s I=>by rw[<-e];exact(F.S.h.fl f hf).2.2 s I⟩
theorem bds(F:F10 ts sc bs n):BdS ts (sumI sc.sC) bs:=by
 exact qoK F.fit9 F.bnd
end F10
end OK
set_option maxHeartbeats 1000000
namespace OL
end OL
set_option maxHeartbeats 1000000
namespace OP
open E1 E4 EO F4 GF GR O0 O8 OC Y10 EQ O1 O9 OF
theorem qrT(a b)(hl:a.ts.length<=40000)(a0:b.ts.length<=40000):qh qd 42 [eRel a,eRel b] (eRel (unR a b)):=by
 refine qSU call42 func42 rfl ?_;refine qu.ints (lo:=1) (e:=3) (bt:=8) (z:=0) (xs:=[]) (ys:=a.ts) zSi zSi zSi zOm (OwnF.lit [] zSp) (by simp[qy]) zSo ?_;intro a1 a2 t C;have U:=C 0 zOm;simp at U;simp[go_sem];refine qu.ints (lo:=1) (e:=3) (bt:=8) (z:=0) (xs:=a.ts) (ys:=b.ts) zSi zSi zSi zOm (zUs t) (by simp[qy]) zOm ?_;intro l g o I;have J:=I 0 zOm;rw[U]at J;have a3:=(qj.1 J).1;simp[go_sem];have hB:∀ b,qo l=some b->1<=b:=fun b hb=>by
  cases l<;>simp[qo]at hb
  subst hb;exact o.2.1 _ _ _ _ rfl
 refine aA (fU (args1:=[aI a.ar,lI (a.ts++b.ts)]) (fun i=>decide (1<=i)) ⟨.inl rfl,.inr (Own.rd (qa3 o.1 hB) (yY _).ok fun r hr c hc=>by
  obtain⟨n,_,rfl⟩:=qn.1 hr;simp at hc;subst hc;exact HF.sc _),trivial⟩ (qh.toSound _ (of06 a.ar (a.ts++b.ts) zSo) (.zs (.zk (zx _) .nil)))) ?_ (by rintro r m ⟨h,_⟩;cases h)
 rintro r m ⟨h,rfl⟩;cases h;have zc:(cutM (fun i=>!decide (1<=i)) g 0)[0]?=some (.arr [aI 0,.lst true []]):=by rw[jy,J];simp
 have R:0<(cutM (fun i=>!decide (1<=i)) g 0).length:=(qj.1 zc).1;generalize a4:cutM (fun i=>!decide (1<=i)) g 0=CM at *
 have T:∀ c,(CM.set 0 c)[0]?=some c:=fun c=>qH R
 simp[go_sem,zc,T];exact .hf _ (qs (unR a b))
end OP
namespace I1
open EO EP EQ F4 GF GR
theorem qrU(l x)(R:l.length<=1000000000):qh qd 104 [lI l,aI x] (aB (decide (x∈l))):=by
 refine qSU call104 func104 rfl ?_;refine ql.up l.length (fun k U=>U.tm 0=lI l/\U.tm 1=aI x/\U.tm 5=aI k/\U.mu=[]/\∀(i:Nat)(h:i<l.length),i<k->l[i]≠x) ?_ ?_
 .simp [go_sem]
 rintro k U T ⟨j,o,p,t,J⟩;by_cases g:k<l.length
 .by_cases C:l[k]=x
  .simp [go_sem,j,o,p,t,g,C]
   rw[decide_eq_true (by grind)];exact .zsc _
  .simp [go_sem,j,o,p,t,g,C]
   refine⟨zWr,fun i h P=>?_⟩;rcases Nat.lt_succ_iff_lt_or_eq.1 P with I|I
   .exact J i h I
   grind
 .simp [go_sem,j,o,p,t,g]
  rw[decide_eq_false (fun h=>by
   grind [uW])]
  exact .zsc _
def wM(k:Nat)(x:Bd)(j:Nat):List (Int×Int):=((x.up.ts.take j).filter fun t=>!decide (t∈x.lo.ts)).map fun t=>((k:Int),t)
theorem qrV(k x j h):wM k x (j+1)=wM k x j++(if x.up.ts[j]∈x.lo.ts then [] else [((k:Int),x.up.ts[j])]):=by
 unfold wM;rw[yd h,List.filter_append,zh];by_cases g:x.up.ts[j]∈x.lo.ts<;>simp[g]
theorem qrW(k x j):(wM k x j).length<=x.up.ts.length:=by
 grind [wM,zX,Nat.le_trans,List.length_filter_le,List.length_take_le']
theorem qrX(bs)(hl:bs.length<=1000)(R:∀ x,x∈bs->qaV x):qh qd 41 [lBd bs] (lP (zo bs 0)):=by
 refine qSU call41 func41 rfl ?_;refine aP bs.length (fun k U=>U.tm 0=lBd bs/\U.tm 4=aI k/\Own U.mu 2 (U.tm 3) ((zo (bs.take k) 0).map rP)) ?_ ?_
 .exact ⟨zSi,zSi,.inl (by simp[go_sem,zo])⟩
 rintro k U hk ⟨i,o,t⟩;by_cases g:k<bs.length
 .have w1:=zWk k
  have T:=R _ (qv g);have a1:=T.up;have a2:=T.lo;have a0:=Kh (bs.take k) 0 fun y hy=>R y (vM hy)
  have a3:(zo (bs.take k) 0).length<=1000000000:=by
   grind
  have C:=ql7 bs k g;have I:wM k bs[k] bs[k].up.ts.length=YJ k bs[k]:=by unfold wM;rw[q8];rfl
  simp[go_sem,i,o,g];refine aP bs[k].up.ts.length (fun j st2=>st2.tm 0=lBd bs/\st2.tm 4=aI k/\st2.tm 5=aI j/\Own st2.mu 2 (st2.tm 3) ((zo (bs.take k) 0++wM k bs[k] j).map rP)) ?_ ?_
  .simp_all [go_sem,wM]
  clear i o t;rintro j st2 hj ⟨i,o,P,t⟩;by_cases l:j<bs[k].up.ts.length
  .have w2:=zWk j
   have hh:=qrU bs[k].lo.ts bs[k].up.ts[j] zOm;have hs:=qrV k bs[k] j l;have a4:=qrW k bs[k] j;simp[go_sem,i,o,P,g,l];refine tV zKr ?_;simp[go_sem,i,o,P,g,l];refine t7 hh (.zk (zx _) (.zs .nil)) ?_;by_cases hm:bs[k].up.ts[j]∈bs[k].lo.ts
   .simp_all [go_sem,if_pos,zV,aM]
   .rw [if_neg hm]at hs
    simp[go_sem,hm,i,o,P,g,l];refine qu.ownB (e:=110) (sz:=2) (bt:=16) (zv := .agg [aI 0,aI 0]) (xs:=(zo (bs.take k) 0++wM k bs[k] j).map rP) (ys:=[rP ((k:Int),bs[k].up.ts[j])]) zSi zSi zSi rfl rfl zOm zOm t (by simp[qy]) (Kf _) (Kf [_]) zSo ?_;simp_all[go_sem,aM,List.append_assoc,zh]
  .have J:j=bs[k].up.ts.length:=by omega
   subst J;rw[I,<-C]at t;simp[go_sem,i,o,P,g,w1]
   try refine⟨g,aM ?_⟩
   try refine aM ?_
   exact⟨zS1 i,zSi,zVs t⟩
 .have J:k=bs.length:=by omega
  subst J;rw[q8]at t;simp[go_sem,i,o];exact cU t
end I1
namespace OS
open EP GF GS KX
theorem qeX(g):∀ l k st q,yw g (l++[q]) k st=if pkAt g (k+l.length)=true then put1 (yw g l k st) q else yw g l k st
 | [],k,st,q=>by simp[yw]
 |a :: l,k,st,q=>by
  rw[yD,yw,qeX g l (k+1) _ q,yw,yp,show k+1+l.length=k+(l.length+1) by omega]
theorem qrY(st q):(put1 st q).length=st.length:=by simp[put1]
theorem k7(g):∀ l k st,(yw g l k st).length=st.length
 | [],k,st=>rfl
 |a :: l,k,st=>by
  rw[yw,k7 g l];split
  .exact qrY _ _
  .rfl
theorem qrZ(i)(g:List (Int×Int))(k j st h):yw i (g.take (j+1)) k st=if pkAt i (k+j)=true then put1 (yw i (g.take j) k st) g[j] else yw i (g.take j) k st:=by
 rw[yd h,qeX,vO,Nat.min_eq_left zOm]
theorem qr0(i bs g){s}(h:s≠0):mdS i bs g s=fixS i (mdS i bs g 0) (yw g (zo bs 0) (s*(zo bs 0).length) (bs.map fun b=>b.lo)) bs.length:=by
 have j:=k7 g (zo bs 0) (s*(zo bs 0).length) (bs.map fun b=>b.lo);rw[zX]at j;unfold mdS;rw[if_neg h,if_pos rfl];refine j7 fun f=>?_
 simp only[fixS,List.getElem?_mapIdx];cases l:(yw g (zo bs 0) (s*(zo bs 0).length) (bs.map fun b=>b.lo))[f]? with
 |none=>rfl
 |some r =>
  have o:=(qj.1 l).1;simp only[Option.map_some];congr 1;cases i.getD f true<;>simp[show f<bs.length by omega]
end OS
namespace W41
end W41
namespace I2
theorem Wl{sz}:∀{xs},ja sz xs->∀ i h j,j<sz->xs.flatten[i*sz+j]?=xs[i][j]?
 | [],_,i,h,j,l=>absurd h (Nat.not_lt_zero i)
 |r :: xs,w,i,h,j,l=>by
  have g:r.length=sz:=w r zSp;rw[List.flatten_cons];cases i with
  |zero=>grind
  |succ i =>
   rw[zN (by grind),g,show (i+1)*sz+j-sz=i*sz+j by rw[Nat.succ_mul];omega];exact Wl (fun r g=>w r (zP1 g)) i (zUs h) j l
end I2
set_option maxHeartbeats 1000000
namespace OG
open YM YF P1 P2 Y1 Y2 Y5 Y6 Y7 Y9 Y10 Y11 Y13 Y14 YV YW
theorem ins1(mu av i)(n:Nat)(t:n<=1):qz qd 229 [av,aI 0,aI n,i] mu fun e m=>e = .ret (.tup [])/\m=mu:=by
 refine qSW call229 func229 rfl {} ?_;have j:qm.wrap 1=1:=rfl;have g:¬(1:Int)<n:=zOm;simp[go_sem,j,g];refine tJ (fun _ U=>U.tm 0=av/\U.tm 2=aI n/\U.tm 8=aI 1/\U.mu=mu) 0 ?_ ?_
 .simp [go_sem]
 rintro k U ⟨C,l,o,p⟩;simp[go_sem,l,o,g,p]
theorem pdq1(mu av g j)(n:Nat)(l:n<=1):qz qd 165 [av,aI 0,aI n,j,g] mu fun e m=>e = .ret (.tup [])/\m=mu:=by
 refine qSW call165 func165 rfl {} ?_;simp[go_sem];refine tJ (fun _ U=>U.tm 0=av/\U.tm 1=aI 0/\U.tm 2=aI n/\U.tm 4=g/\U.mu=mu) 0 ?_ ?_
 .simp [go_sem]
 rintro k U ⟨o,p,t,C,I⟩;have J:qm.wrap (n:Int)=n:=zWr;have P:(n:Int)<=12:=zOm;simp[go_sem,o,p,t,C,J,P,I];refine aA (ins1 mu av g n l) ?_ ?_
 .rintro r m ⟨i,rfl⟩
  cases i;simp[go_sem]
 .rintro r m ⟨i,_⟩
  cases i
theorem len64(n:Nat)(o:n<=1):qh qd 238 [.sc (.int .u64 n)] (aI n):=by
 refine qSV call238 func238 rfl ?_;have g:n=0\/n=1:=zOm;have i:Lib.len8tab.data[(IntKind.u8.wrap 0).toNat]?=some 0:=zKr;have q1:Lib.len8tab.data[(IntKind.u8.wrap 1).toNat]?=some 1:=zKr;have j:qm.wrap 0=0:=rfl;have l:qm.wrap 1=1:=rfl;rcases g with rfl|rfl
 .simp [go_sem,i,j]
  exact .zsc _
 .simp [go_sem,q1,l]
  exact .zsc _
theorem len1(n:Nat)(g:n<=1):qh qd 166 [.sc (.int .u64 n)] (aI n):=by
 refine qSU call166 func166 rfl ?_;refine fW (len64 n g) (.zs .nil) ?_;exact .zsc _
theorem qr1(mu av j n)(i:n<=1)(o:(av = .lst true []/\n=0)\/∃ b,av = .sl b 1 0 n):qz qd 78 [av,j] mu fun e m=>e = .ret (.tup [])/\m=mu:=by
 have e:lenA qd mu 96 av=some (aI n):=by
  rcases o with ⟨rfl,rfl⟩|⟨b,rfl⟩<;>simp[go_sem]
 have p:IntKind.u64.wrap (n:Int)=n:=by
  have t:n=0\/n=1:=zOm;rcases t with rfl|rfl<;>rfl
 refine qSW call78 func78 rfl {} ?_;rcases o with ⟨rfl,rfl⟩|⟨b,rfl⟩
 .have l:IntKind.u64.wrap 0=0:=rfl
  simp[go_sem,l];refine fW (len1 0 i) (.zs .nil) ?_;refine aA (pdq1 mu _ j _ 0 i) ?_ ?_
  .rintro r m ⟨g,rfl⟩
   cases g;simp[go_sem]
  .rintro r m ⟨g,_⟩
   cases g
 .simp [go_sem,p]
  refine fW (len1 n i) (.zs .nil) ?_;refine aA (pdq1 mu _ j _ n i) ?_ ?_
  .rintro r m ⟨g,rfl⟩
   cases g;simp[go_sem]
  .rintro r m ⟨g,_⟩
   cases g
theorem qr2{mu av j L}(l:Own mu 1 av (L.map rL))(t:∀ zs,av = .lst true zs->zs=[])(o:L.length<=1) :
  qz qd 78 [av,j] mu fun e mu'=>e = .ret (.tup [])/\∃ g,g.Perm L/\g.Pairwise (fun x y=>¬cmpL y x<0)/\Rd mu' av (lL g):=by
 have i:Rd mu av (lL L):=l.rd (qh4 _).ok fun r i c p=>by
   obtain⟨q,_,rfl⟩:=qn.1 i;rw[qQ]at p;subst p;exact zx q
 have C:L.Pairwise (fun x y=>¬cmpL y x<0):=by
  match L,o with
  | [],_=>exact .nil
  | [x],_=>exact List.pairwise_singleton _ _
 refine qz.monoR (qr1 mu av j L.length o ?_) ?_
 .rcases l with h|⟨b,h,_⟩
  .have:=t _ h
   have I:L=[]:=by simpa using this
   subst I;exact .inl ⟨h,rfl⟩
  .exact .inr ⟨b,zUs h⟩
 .rintro e m ⟨rfl,rfl⟩
  exact⟨rfl,L,.refl _,C,i⟩
theorem qr3(ts)(h:okTS ts)(hp:∀ p,p∈ts.sT->WfN p.body)(n)(hw:WfN n)(env)(he:Ze ts.sS.length env)(a7:∀ k,exam (mkCk ts ts.sT.length) (yg env) false n = .ok (some k)->k.ts.length<=1):qh qd 36 [eTS ts,lPm env,eNd n] (.tup [lL (Zg ts env n).1,aI (Zg ts env n).2]):=by
 refine qSV call36 func36 rfl ?_;by_cases a0:20<=n.op
 .simp [go_sem,a0,Zg]
  exact qaI [] 43
 .simp [go_sem,a0]
  have b0:WKs [.ip (cTS ts),.ip [lPm env],.ip (cNd n)] [.ip (cTS ts),.ip [lPm env],.ip (cNd n)] := .zk (HF.ip (JT ts)) (.zk (HF.ip (by simp;exact vD env)) (.zk (HF.ip (jE n)) .nil));have h1:=qlQ ts h hp n hw env he (mu:=[.arr (cKo none)]++[.dead]) (b:=0) rfl;have ae:=jI (uo h (qk ts.sT.length)) (szN n) n (yg env) false;refine aA (g9 (mu:=[.arr (cKo none)]) h1 ?_) ?_ ?_
  .intro v m C
   split at C
   .exact absurd C.1 zSp
   .cases C.1;exact⟨_,_,rfl⟩
  .rintro r m ⟨m',x,⟨l,rfl⟩,⟨r',C,hr⟩|⟨er,p,C,hr⟩⟩
   .cases hr
    split at C
    .rename_i ko hE
     obtain⟨_,rfl⟩:=C;have af:kd n.op=101:=qlP hw a0;obtain⟨k,rfl,hk⟩:=ae ko (qk _) hw (UG he) hE af;have a2:Zg ts env n=(X7 k,0):=by
      unfold Zg;rw[if_neg a0,hE]
     rw[a2];simp[go_sem];refine ql.seen k.ts.length (fun seen U=>U.tm 8 = .ptr 0 0/\U.tm 27 = .ptr (l.length+3) 0/\U.mu[0]?=some (.arr (cKd k))/\U.mu[l.length+3]?=some (.it (eT k.ts) seen) /\
      OwnF (l.length+4) U.mu 1 (U.tm 10) (seen.map fun i=>rL (rowT k (k.ts.getD i [])))/\∀ zs,U.tm 10 = .lst true zs->zs=[]) ?_ ?_
     .refine ⟨zSi,zSi,zSi,zSi,?_,fun zs e=>?_⟩
      .simp [go_sem]
       exact OwnF.nil zSp
      .simp [go_sem]at e
       exact e
     .rintro seen U a8 g ⟨e8,a1,m0,mi,ho,ag⟩
      have a3:l.length+3<U.mu.length:=(qj.1 mi).1;have b2:seen.length<=k.ts.length:=Ug _ _ a8 g;have b3:=cY hk h.ns;simp[go_sem,e8,a1];refine⟨l.length+3,eT k.ts,seen,rfl,mi,fun i e I a9=>?_,fun a4=>?_⟩
      .obtain ⟨t,ht,rfl⟩:=Qw I
       have ah:=hk.okK.len t (qX ht);have ai:i<k.ts.length:=(qj.1 ht).1;have aa:∀(c:Cell)(lc:List Cell),((U.mu.set (l.length+3) c)++lc)[0]?=some (.arr (cKd k)):=fun c lc=>by
        rw[qI zSo,zGl];exact m0
       obtain⟨J,x1,x2,rfl⟩:∃ J x1 x2,t=[J,x1,x2]:=by
        match t,ah with
        | [J,x1,x2],_=>exact⟨_,_,_,rfl⟩
       have hq:∀(c c2:Cell),((U.mu.set (l.length+3) c)++[c2])[U.mu.length]?=some c2:=fun c c2=>by
        rw[zN zSp];simp
       simp[go_sem,-getElem?_pos,hq,List.getElem?_cons_zero,List.getElem?_cons_succ,e8,a1,I,a3,a9,mi,aa];have b4:=hk.ar;obtain⟨a,ha⟩:∃ a:Nat,k.ar=a:=⟨k.ar.toNat,zOm⟩;have b5:a<=3:=zOm;rw[ha,if_pos zOm];simp[go_sem];generalize hM:U.mu.set (l.length+3) (Cell.it (eT k.ts) (seen++[i]))++[Cell.arr [AV.sc (Value.int IntKind.i8 J),AV.sc (Value.int IntKind.i8 x1),AV.sc (Value.int IntKind.i8 x2)]]=M at *
       have b6:M.length=U.mu.length+1:=by rw[<-hM];simp
       have aj:M[U.mu.length]?=some (.arr [AV.sc (Value.int IntKind.i8 J),AV.sc (Value.int IntKind.i8 x1),AV.sc (Value.int IntKind.i8 x2)]):=by rw[<-hM];exact hq _ _
       refine aP a (fun j s=>s.tm 8 = .ptr 0 0/\s.tm 27 = .ptr (l.length+3) 0/\s.tm 10=U.tm 10/\s.tm 34 = .sl U.mu.length 0 0 a/\s.tm 35=aI a/\s.tm 36=aI j/\(∀ i,i<M.length->s.mu[i]?=M[i]?)/\OwnF M.length s.mu 1 (s.tm 12) (([J,x1,x2].take j).map rI)) ?_ ?_
       .refine ⟨zS1 e8,zS1 a1,zSi,zSi,zSi,zSi,zSi,?_⟩
        simp[go_sem];exact OwnF.nil (qk _)
       .rintro j s hj ⟨f8,f27,f10,f34,f35,f36,fm,fo⟩
        have fq:s.mu[U.mu.length]?=some (.arr [AV.sc (Value.int IntKind.i8 J),AV.sc (Value.int IntKind.i8 x1),AV.sc (Value.int IntKind.i8 x2)]):=by rw[fm _ zOm];exact aj
        by_cases ak:j=a
        .subst ak
         have g1:=fo.cells;have g2:=fo.one;simp[go_sem,f8,f27,f10,f34,f35,f36,g1,g2];have ab:(([J,x1,x2]:List Int).take j)=rowT k (k.ts.getD i []):=by
          rw[zr,ht];simp[rowT,ha]
         rw[ab]at fo;have P:∀ i,i<M.length->(cutM (fun i=>!decide (M.length<=i)) s.mu 0)[i]?=M[i]?:=fun i I=>by
          rw[jy,<-fm i I];simp only[Nat.zero_add,show ¬M.length<=i by omega,decide_false,Bool.not_false,if_true];cases s.mu[i]?<;>rfl
         have al:OwnF (l.length+4) (cutM (fun i=>!decide (M.length<=i)) s.mu 0) 1 (U.tm 10) (seen.map fun i=>rL (rowT k (k.ts.getD i []))):=by
          obtain⟨o1,o2,o3⟩:=ho;refine⟨?_,o2,by rw[uE];have:=fo.2.2;omega⟩;rcases o1 with o1|⟨b,o1,hc⟩
          .exact .inl o1
          .have b7:=o2 _ _ _ _ o1
           have an:=(qj.1 hc).1;refine .inr ⟨b,o1,?_⟩;rw[P b zOm,<-hM,qI (zUs an),zGl];exact hc
         have ao:Rd (cutM (fun i=>decide (M.length<=i)) s.mu 0) (s.tm 12) (lI (rowT k (k.ts.getD i []))):=X3 fo (yY _).ok fun r hr c hc=>by
          obtain⟨q,_,rfl⟩:=qn.1 hr;rw[qQ]at hc;subst hc;exact HF.sc _
         refine qlR (x' := .lst true [[lI (rowT k (k.ts.getD i []))]]) (fun i=>decide (M.length<=i)) (lo:=l.length+4) (e:=28) (sz:=1) (bt:=24) (zv := .lst true []) (xs:=seen.map fun i=>rL (rowT k (k.ts.getD i []))) (ys:=[rL (rowT k (k.ts.getD i []))]) zSi zSi zSi rfl rfl zOm zOm (qlS ao) al (by simp[qy]) (qaJ _ _) (qaJ (fun i=>rowT k (k.ts.getD i [])) [i]) zSo zSp ?_;intro av R T o;simp[go_sem,f8,f27,f10,f34,f35,f36];refine⟨i,ai,a9,aM ?_⟩;refine⟨zS1 f8,zS1 f27,?_,?_,?_,fun zs e=>by simp[go_sem]at e⟩
         .simp only[qK]
          rw[o 0 zOm,P 0 zOm,<-hM];exact aa _ _
         .simp only[qK]
          rw[o _ zOm,P _ zOm,<-hM,qI (zUs a3),qH a3]
         .rw [zh]
          simpa[go_sem] using T
        .have g:j<a:=by omega
         have w1:=zWk j;have aq:j=0\/j=1\/j=2:=zOm;have z1:qm.wrap 1=1:=rfl;have z2:qm.wrap 2=2:=rfl;have z3:qm.wrap 3=3:=rfl;have a5:∀ x,x∈[J,x1,x2]->0<=x/\x<128:=cH hk h.ns (qX ht);have v0:=a5 J zSp;have v1:=a5 x1 zSp;have v2:=a5 x2 zSp;have u0:qm.wrap J=J:=zWr;have u1:qm.wrap x1=x1:=zWr;have u2:qm.wrap x2=x2:=zWr;rcases aq with rfl|rfl|rfl
         .have c:(0:Int)<a:=by omega
          simp[go_sem,f8,f27,f10,f34,f35,f36,g,fq,w1,u0,u1,u2,c];refine qu.ints (lo:=M.length) (e:=3) (bt:=8) (z:=0) (xs:=[]) (ys:=[J]) zSi zSi zSi zOm (zUs fo) (by simp[qy]) zSp ?_;intro av R T o;simp[go_sem,f8,f27,f10,f34,f35,f36,z1,z2,z3];refine⟨g,aM ?_⟩;exact⟨zS1 f8,zS1 f27,by simp[go_sem,f10],by simp[go_sem,f34],zS1 f35,zSi,fun i I=>by simp only[qK];rw[o i I];exact fm i I,zVs T⟩
         .have c:(1:Int)<a:=by omega
          simp[go_sem,f8,f27,f10,f34,f35,f36,g,fq,w1,u0,u1,u2,c];refine qu.ints (lo:=M.length) (e:=3) (bt:=8) (z:=0) (xs:=[J]) (ys:=[x1]) zSi zSi zSi zOm (zUs fo) (by simp[qy]) zSp ?_;intro av R T o;simp[go_sem,f8,f27,f10,f34,f35,f36,z1,z2,z3];refine⟨g,aM ?_⟩;exact⟨zS1 f8,zS1 f27,by simp[go_sem,f10],by simp[go_sem,f34],zS1 f35,zSi,fun i I=>by simp only[qK];rw[o i I];exact fm i I,zVs T⟩
         .have c:(2:Int)<a:=by omega
          simp[go_sem,f8,f27,f10,f34,f35,f36,g,fq,w1,u0,u1,u2,c];refine qu.ints (lo:=M.length) (e:=3) (bt:=8) (z:=0) (xs:=[J,x1]) (ys:=[x2]) zSi zSi zSi zOm (zUs fo) (by simp[qy]) zSp ?_;intro av R T o;simp[go_sem,f8,f27,f10,f34,f35,f36,z1,z2,z3];refine⟨g,aM ?_⟩;exact⟨zS1 f8,zS1 f27,by simp[go_sem,f10],by simp[go_sem,f34],zS1 f35,zSi,fun i I=>by simp only[qK];rw[o i I];exact fm i I,zVs T⟩
      .simp [go_sem,e8,a1]
       have a6:(seen.map fun i=>rowT k (k.ts.getD i [])).Perm (k.ts.map (rowT k)):=qlU (rowT k) a8 g fun i I=>a4 i (zUs I)
       have b1:∀ x,x∈(seen.map fun i=>rowT k (k.ts.getD i []))->x.length<=3:=fun x hx=>by
        obtain⟨i,_,rfl⟩:=qn.1 hx;have:=hk.ar;simp only[rowT,vO];omega
       generalize hL:(seen.map fun i=>rowT k (k.ts.getD i []))=L at *
       have au:OwnF (l.length+4) U.mu 1 (U.tm 10) (L.map rL):=by
        rw[<-hL,List.map_map];exact ho
       have b8:L.length<=64:=by rw[<-hL,zX];omega
       refine aA (qr2 au.1 ag (by rw[<-hL,zX];have:=a7 k hE;omega)) ?_ ?_
       .rintro r m ⟨e,L',aw,ax,ad⟩
        cases e;have ay:L'=X7 k:=Uo (aw.trans a6) ax;rw[ay]at ad;simp[go_sem];exact qlT ad 0
       .rintro r m ⟨e,_⟩;cases e
    .exact absurd C.1 zSp
   .cases hr
    split at C
    .exact absurd C.1 zSp
    .rename_i d hE
     obtain⟨C,rfl⟩:=C;cases C;have az:d.1≠0:=Zf _ (szN n) n _ _ _ (qk _) hE;have a2:Zg ts env n=([],d.1):=by
      unfold Zg;rw[if_neg a0,hE]
     rw[a2];simp[go_sem,az];refine fD ?_;exact qaI _ _
  .rintro r m ⟨m',x,⟨l,rfl⟩,⟨r',C,hr⟩|⟨er,p,C,hr⟩⟩<;>cases hr
end OG
set_option maxHeartbeats 1000000
namespace OH
open Y1 Y9 P1 YF E4 EO GF KA O0 KB KE Q6 ER O4 O9 Y6 OF
theorem qeY(p):∀ ks,jW p ks=ks.any (anyN p)
 | []=>rfl
 |k :: ks=>by rw[jW,qeY p ks];rfl
abbrev Qm:Nd->Bool:=anyN fun n=>decide (n.op=47)
theorem qeZ:∀ m n,szN n<=m->Small n->qh qd 37 [eNd n] (aB (Qm n))
 | 0,n,l,_=>by obtain⟨op,nm,i,ks,p⟩:=n;simp[szN]at l
 |m+1,n,l,o=>by
  have J:=o.len;have t:HF (.lst false (n.sD.map cNd)):=HF.lst fun r C c g=>by
   obtain⟨k,_,rfl⟩:=qn.1 C;exact jE k c g
  have hf:HF (.fn (.func 37) [] []):=HF.fn (fun c g=>by simp at g) (fun c g=>by simp at g);have I:=nF false n.sD (.fn (.func 37) [] []) Qm ⟨_,[],[],rfl,fun k j=>⟨[eNd k],qeZ m k (zW1 (qZ j)) (o.kid j),.zk (qC k) .nil⟩⟩ hf t zOm;have e:Qm n=(decide (n.op=47)||n.sD.any Qm):=by
   rw[Qm,Kc,qeY]
  rw[e];refine qSV call37 func37 rfl ?_;by_cases h:n.op=47
  .simp [go_sem,h]
   exact .zsc _
  .simp [go_sem,h]
   refine fW I (.zk t (.zk hf .nil)) ?_;exact .zsc _
def outU(e:Int)(c:Bool)(b:Bd):AV:=if e≠0 then .tup [eBd bd0,aI e] else if c=true then .tup [eBd bd0,aI 45] else .tup [eBd b,aI 0]
theorem qe0(mu e):Rd mu (.tup [.agg cZ4,aI e]) (.tup [eBd bd0,aI e]):=OF.Rd.tups ⟨Rd.aggs ⟨.hf _ (HF.sc _),.wk _ true _ (.hf _ (HF.lst fun r g=>by simp at g)),.hf _ (HF.sc _),.wk _ true _ (.hf _ (HF.lst fun r g=>by simp at g)),trivial⟩,.hf _ (HF.sc _),trivial⟩
variable {ts:TS} {sc:Sc} {bs:List Bd}
theorem qr4(C:NwC ts sc)(hb:BdS ts (sumI sc.sC) bs){n}(hs:Small n){X e}(hT:qh qd 36 [eTS ts,lPm [],eNd n] (.tup [X,aI e]))(ht:e=0->Qm n=false->∃ a,ArN (arT ts) n a) :
  qh qd 10 [eTS ts,eSc sc,lBd bs,lPm [],eNd n] (outU e (Qm n) (ivl ⟨ts,sc,bs⟩ [] n)):=by
 unfold outU;refine qSQ call10 func10 rfl { mt:=[58] } ?_;simp[go_sem];refine t7 hT (.zk (zA ts) (.zk (vD _) (.zk (qC n) .nil))) ?_;by_cases t:e=0
 .subst t
  simp[go_sem];refine t7 (qeZ _ n (qk _) hs) (.zk (qC n) .nil) ?_;cases hc:Qm n with
  |true =>
   simp[go_sem];exact qe0 _ _
  |false =>
   obtain⟨a,ha⟩:=ht rfl hc;have cI:=C.iv hb ha;generalize hX:ivl ⟨ts,sc,bs⟩ [] n=Y at *
   simp[go_sem];refine tJ (fun _ U=>U.tm 2=lBd bs/\U.tm 5 = .ip (cTS ts)/\U.tm 6 = .ip [lI sc.sC,aI sc.sN]/\U.tm 9 = .ip (cNd n)/\U.tm 10 = .ptr 0 0/\U.tm 14 = .lst true []/\U.tm 33=aI 0/\U.tm 34=aI 0/\U.mu=[.arr cZ4]) 0 ?_ ?_
   .simp [go_sem]
   rintro k U ⟨I,J,P,R,i,j,o,p,hm⟩;simp[go_sem,o,p];refine fG [0,1,2,3,4,5,6,7] [(0,0,[]),(1,0,[]),(2,0,[]),(3,0,[]),(4,1,[0,1]),(5,0,[]),(6,1,[]),(7,0,[])] zKr zKr zSi ?_;simp[go_sem,I,J,P,R,i,j];refine t7 (Yt sc C.W.s.g) (.zk (zF _) .nil) ?_;simp[go_sem,I,J,P,R,i,j,hm];have l:=cI [.arr cZ4,.arr (cNs ts sc (lBd bs) (sumI sc.sC) false)] 1 false (lBd bs) true ⟨rfl,.inl rfl⟩;rw[hX]at l;refine qg.mem l fun m1 h1=>?_
   have hz:=h1 0 _ rfl;obtain⟨T,rfl⟩:=nr hz;simp[go_sem,i];exact OF.Rd.tups ⟨.hf _ (yr Y),.hf _ (HF.sc _),trivial⟩
 .simp [go_sem,t]
  exact qe0 _ _
end OH
namespace FH
open YF P1 P2 Y1 Y9 Y14 YZ YG Q6 YH
theorem qr5(ts)(h:okTS ts)(J:∀ p,p∈ts.sT->WfN p.body)(n)(T:WfN n)(g:anyN (fun n=>decide (n.op=47)) n=false):qh qd 60 [eTS ts,eNd n] (.tup [eNd (zp ts n).1,aI (zp ts n).2]):=by
 generalize o:zp ts n=R;unfold zp at o;refine qSQ call60 func60 rfl { mt:=[25] } ?_;simp[go_sem];refine fW (m9 ts h J n T [] ⟨zSp,zSp⟩) (.zk (zA ts) (.cons (WK.lst fun r hr=>absurd hr qN) (.zk (qC n) .nil))) ?_;by_cases j:(jd ts [] n).1=0
 case neg =>
  rw[if_pos j]at o;subst o;simp[go_sem,j];refine fG [0,1,2,4,3] [(0,0,[]),(1,0,[]),(2,0,[]),(4,0,[]),(3,1,[2])] zKr zKr zSi ?_
  all_goals
   simp[go_sem,j];exact Vc _ _
 case pos =>
  rw[if_neg (zUs j)]at o;simp[go_sem,j];have P:∀(v:List Nd)(k:Nd)(I:Mu),InM ts (putN [] v) (v.any fun n=>decide (n.op=47)) I->qz qd 138 (eNd k :: [.ptr 4 0,.ptr 5 0]) I fun e m=>e = .ret (.tup [])/\InM ts (putN [] (v++[k])) ((v++[k]).any fun n=>decide (n.op=47)) m:=fun v k I i=>by
   refine(qm1 ts ⟨0,0⟩ 2 _ _ k i.p i.x i.c i.t).monoR ?_;rintro e m ⟨rfl,rfl⟩;refine⟨rfl,?_⟩;rw[List.any_append];simp only[putN,List.foldl_append,List.foldl_cons,List.foldl_nil,List.any_cons,List.any_nil,Bool.or_false];exact i.setT.setC
  refine aA (qbO (caps:=[.ptr 4 0,.ptr 5 0]) (fun v I=>InM ts (putN [] v) (v.any fun n=>decide (n.op=47)) I) (fun v I l h=>h.push l) P (szN n) n (qk _) T.small [] _ ⟨rfl,rfl,rfl,rfl,rfl⟩) ?_ (by rintro r m ⟨e,_⟩;cases e);rintro r m ⟨e,i⟩;cases e;rw[jp,<-qcA _ (szN n) n (qk _),g]at i;have a0:=i.len;have C:∀ c,(m.set 0 c)[0]?=some c:=fun c=>qH zOm
  rw[if_pos g]at o;subst o;simp[go_sem,i.c,i.r,C,qW];exact .hf _ (HF.tup fun c j=>by simp at j;rcases j with rfl|rfl;exact qC n;exact HF.sc _)
end FH
namespace ID
end ID
namespace IE
end IE
namespace IK
open P1
namespace Cx
variable {ts:TS} {sc:Sc} {b:List Bd} {N:Nat}
end Cx
namespace Cx
variable {ts:TS} {sc:Sc} {b:List Bd} {N:Nat}
end Cx
namespace Cx
variable {ts:TS} {sc:Sc} {b:List Bd} {N:Nat}
end Cx
end IK
namespace IL
open P1
variable {ts:TS} {sc:Sc} {b:List Bd} {N:Nat}
end IL
namespace IM
open P1
variable {ts:TS} {sc:Sc} {b:List Bd} {N:Nat}
end IM
set_option maxHeartbeats 1000000
namespace ON
open YF P1 E4 EO EP EQ F4 G5 GF GP GR LA
theorem qr6(ts sc)(F:Fit9 ts sc):qh qd 24 [eTS ts,eSc sc] (lBd (defB ts sc)):=by
 have a0:=F.nf;refine qSU call24 func24 rfl ?_;refine aP ts.sA.length (fun k U=>U.tm 2 = .ip (cTS ts)/\U.tm 3 = .ip [lI sc.sC,aI sc.sN]/\U.tm 9 = .lst false (ts.sA.map vA)/\U.tm 10=aI ts.sA.length/\U.tm 11=aI k/\Own U.mu 4 (U.tm 5) ((ts.sA.take k).map (rowD sc))) ?_ ?_
 .exact ⟨zSi,zSi,zSi,zSi,zSi,.inl zSi⟩
 rintro k U hk ⟨e2,e3,e9,C,o,I⟩;by_cases l:k<ts.sA.length
 .have w1:=zWk k
  have i:=qv l;have t:=EW.XN sc F.g (fun a ha=>(F.g.2 a ha).1) ts.sA[k].sS (F.fs _ i) (F.f1 _ i).1 (F.f1 _ i).2;rw[qmN sc F.g (F.pf i) _ (F.f1 _ i).2 (F.fs _ i)]at t;simp[go_sem,e9,C,o,l];refine tV zKr ?_;simp[go_sem,e2,e3,o,l];refine fW t (.zk (zF _) (.zk (zx _) .nil)) ?_;refine qu.ownB (e:=44) (sz:=4) (bt:=64) (zv := .agg [aI 0,.lst true [],aI 0,.lst true []]) (xs:=(ts.sA.take k).map (rowD sc)) (ys:=[rowD sc ts.sA[k]]) zSi zSi zSi rfl rfl zOm zOm (Own.push I _) (by simp[qy,rowD]) (Kq sc _) (Kq sc [_]) zSo ?_;intro a1 R J _ _ _;simp[go_sem,o,l,w1];refine aM ⟨zS1 e2,zS1 e3,zS1 e9,zS1 C,zSi,?_⟩;rw[yd l,zh];simpa[go_sem] using J
 .have P:k=ts.sA.length:=by omega
  subst P;rw[q8]at I;simp[go_sem,C,o];have:=cZ (g:=fun f=>cBd ⟨⟨f.sS.length,[]⟩,⟨f.sS.length,y7 sc f.sS⟩⟩) I (Kq sc _).ok (fun r T=>by
   obtain⟨n,_,rfl⟩:=qn.1 T;rfl) fun f _=>⟨.hf _ (HF.sc _),.wk _ true _ (.hf _ (HF.lst fun r T=>by simp at T)),.hf _ (HF.sc _),.hf _ (zx _),trivial⟩
  show Rd _ _ (.lst false ((defB ts sc).map cBd));rw[defB,List.map_map];exact this
end ON
set_option maxHeartbeats 1000000
namespace OM
open Y1 P1 PF YF E4 GF KA KR O0 IB YG E9 KG Y16 Q4 Q6 QL ER F6 OI OJ OF OK Y6 Y11 YW QB
def tsN:TS:=⟨[(⟨#[65]⟩,false)],[⟨⟨#[102]⟩,[0],false⟩,⟨⟨#[103]⟩,[0],false⟩],[],[]⟩
def scN:Sc:=⟨[2],1⟩
abbrev rE:Rl:=⟨1,[]⟩
abbrev rF:Rl:=⟨1,[0,1]⟩
def bsN:List Bd:=[⟨rE,rF⟩,⟨rE,rF⟩]
def nm(b:dA):Nd := .mk 1 b 0 [] 0
def nd(op:Int)(ks:List Nd):Nd := .mk op ⟨#[]⟩ 0 ks 0
abbrev fN:Nd:=nm ⟨#[102]⟩
abbrev gN:Nd:=nm ⟨#[103]⟩
abbrev aN:Nd:=nm ⟨#[65]⟩
def q1:Nd:=nd 35 [fN]
def q2:Nd:=nd 41 [nd 33 [fN,aN],nd 35 [nd 8 [gN,fN]]]
def q3:Nd:=nd 41 [nd 34 [fN],nd 35 [fN]]
def q4:Nd:=nd 34 [nm ⟨#[104]⟩]
def q5:Nd:=nd 32 [nd 6 [fN,gN],nd 8 [aN,gN]]
def q6:Nd:=nd 48 [nd 41 [nd 34 [fN],nd 48 [nd 35 [gN]]]]
def q7:Nd:=nd 6 [fN,aN]
theorem v1:fixL tsN scN bsN q1 = .ok [⟨rE,rE⟩,⟨rE,rF⟩]:=by kernel_rfl
theorem v2:fixL tsN scN bsN q2 = .ok [⟨rF,rF⟩,⟨rE,rF⟩]:=by kernel_rfl
theorem v3:fixL tsN scN bsN q3 = .error 100:=by kernel_rfl
theorem v4:fixL tsN scN bsN q4 = .error 40:=by kernel_rfl
theorem v5:fixL tsN scN bsN q5 = .ok bsN:=by kernel_rfl
theorem v6:conj q6=[nd 48 [nd 34 [fN]],nd 48 [nd 35 [gN]]]:=by kernel_rfl
theorem v7:ivl ⟨tsN,scN,bsN⟩ [] q7=⟨rF,rF⟩:=by kernel_rfl
theorem v8:[q1,q2,q3,q4,q5,q6,q7].all zT=true:=by kernel_rfl
theorem v9:uf tsN=[]:=by kernel_rfl
theorem v10:jJ (spOf tsN) scN=true:=by kernel_rfl
theorem v11:vBs tsN scN bsN=true:=by kernel_rfl
theorem v12:vw q1=true/\shpB tsN=true:=⟨zKr,zKr⟩
theorem szN0:∀ x,x∈tsN.sS->x.1.size<=4611686018427387904:=by
 intro x g;simp only[tsN,qQ]at g;subst g;decide
theorem qe1:wL tsN scN bsN q1:=⟨zDe,zDe,zDe,zDe,zDe,zDe,v12.1,fun p g=>by simp[tsN]at g,fun p g=>by simp[tsN]at g,v12.2⟩
theorem F0:F10 tsN scN bsN q1:=⟨qe1,Vv qe1 szN0,v9,v10,zDe,v11,Jo v12.1⟩
theorem val{q}(h:q∈[q1,q2,q3,q4,q5,q6,q7]):zT q=true:=qY.1 v8 q h
theorem inlI0{ts}(S:SpD ts){n}(i:zT n=true)(j:anyN (fun n=>decide (n.op=47)) n=false):InlI ts n:=by
 have e:(zp ts n).2=0->(zp ts n).1=n/\(jd ts [] n).1=0:=fun g=>by
  unfold zp at g⊢;by_cases h:(jd ts [] n).1=0
  .rw [if_neg (zP1 h),if_pos j];exact⟨rfl,h⟩
  .rw [if_pos h]at g;exact absurd g h
 refine⟨FH.qr5 ts S.h S.wp n (vj i) j,fun g=>?_,fun g=>?_⟩
 .rw [(e g).1];exact⟨vj i,(Zp.1 i).2.2.1⟩
 .rw [(e g).1];exact qoD S.h (vj i) (e g).2
theorem v13:[q1,q2,q3,q4,q5,q6,q7].all (fun q=>!anyN (fun n=>decide (n.op=47)) q)=true:=by kernel_rfl
theorem fixH{q}(h:q∈[q1,q2,q3,q4,q5,q6,q7]):qh qd 21 [eTS tsN,eSc scN,lBd bsN,eNd q] (outF (fixL tsN scN bsN q)):=
 qrO F0.nwc zDe F0.bds fun m g=>by
  have e:m=q:=by simpa[tsN] using g
  subst e;exact inlI0 F0.S (val h) (by simpa using qY.1 v13 _ h)
theorem fix1:qh qd 21 [eTS tsN,eSc scN,lBd bsN,eNd q1] (.tup [lBd [⟨rE,rE⟩,⟨rE,rF⟩],aI 0]):=by
 have h:=fixH (q:=q1) zSp
 rwa[v1]at h
theorem fix2:qh qd 21 [eTS tsN,eSc scN,lBd bsN,eNd q2] (.tup [lBd [⟨rF,rF⟩,⟨rE,rF⟩],aI 0]):=by
 have h:=fixH (q:=q2) zSp
 rwa[v2]at h
theorem fix3:qh qd 21 [eTS tsN,eSc scN,lBd bsN,eNd q3] (.tup [lBd [],aI 100]):=by
 have h:=fixH (q:=q3) zSp
 rwa[v3]at h
theorem fix4:qh qd 21 [eTS tsN,eSc scN,lBd bsN,eNd q4] (.tup [lBd [],aI 40]):=by
 have h:=fixH (q:=q4) zSp
 rwa[v4]at h
theorem fix5:qh qd 21 [eTS tsN,eSc scN,lBd bsN,eNd q5] (.tup [lBd bsN,aI 0]):=by
 have h:=fixH (q:=q5) zSp
 rwa[v5]at h
theorem con6:qh qd 17 [eNd q6] (lNd [nd 48 [nd 34 [fN]],nd 48 [nd 35 [gN]]]):=by
 have h:=OD.Jl _ q6 (qk _) (vj (val (q:=q6) zSp)) (by rw[v6];decide)
 rwa[v6]at h
theorem e7:exam (mkCk tsN tsN.sT.length) (yg []) false q7 = .ok (some ⟨1,[[0,0,0]]⟩):=by kernel_rfl
theorem up7:qh qd 10 [eTS tsN,eSc scN,lBd bsN,lPm [],eNd q7] (.tup [eBd ⟨rF,rF⟩,aI 0]):=by
 have i:=vj (val (q:=q7) zSp);have j:=OG.qr3 tsN F0.S.h (fun p l=>by simp[tsN]at l) q7 i [] ⟨zSp,zSp⟩ (fun k g=>by rw[e7]at g;cases g;decide);have g:(Zg tsN [] q7).2=0:=zKr;rw[g]at j;have o:OH.Qm q7=false:=zKr;have h:=OH.qr4 F0.nwc F0.bds i.small j (fun _ _=>⟨1,.alike (.inl rfl) rfl (.name rfl zKr) (.name rfl zKr)⟩);rw[o,v7]at h;exact h
theorem wC(b):qh qd 22 [aS b] (eNd (nm b)):=by
 refine qSU call22 func22 rfl ?_;exact Rd.aggs ⟨.hf _ (HF.sc _),.hf _ (HF.sc _),.hf _ (HF.sc _),.wk _ true _ (.hf _ (HF.lst fun r g=>by simp at g)),.hf _ (HF.sc _),trivial⟩
theorem jx(op ks):qh qd 23 [aI op,lNd ks] (eNd (nd op ks)):=by
 refine qSU call23 func23 rfl ?_;have g:eNd (nd op ks) = .agg [aI op,aS ⟨#[]⟩,aI 0,lNd ks,aI 0]:=by rw[eNd,jc];rfl
 rw[g];exact Rd.aggs ⟨.hf _ (HF.sc _),.hf _ (HF.sc _),.hf _ (HF.sc _),.hf _ (JK ks),.hf _ (HF.sc _),trivial⟩
theorem wl{full}(ks):WK (.lst full (ks.map cNd)) (lNd ks):=WK.lst fun r g c i=>by
 obtain⟨k,_,rfl⟩:=qn.1 g;exact jE k c i
theorem wts:WK (.agg [.lst true [[aS ⟨#[65]⟩,aB false]],.lst true [[aS ⟨#[102]⟩,.lst true [[aI 0]],aB false],[aS ⟨#[103]⟩,.lst true [[aI 0]],aB false]],.lst true [],.lst true []]) (eTS tsN):=
 WK.aggs (.cons (wH ⟨.zs (.zs .nil),trivial⟩) (.cons (wH ⟨.zs (.cons (WK.ints [0]) (.zs .nil)),.zs (.cons (WK.ints [0]) (.zs .nil)),trivial⟩) (.cons (wH (by trivial)) (.cons (wH (by trivial)) .nil))))
theorem wsc:WK (.agg [.lst true [[aI 2]],aI 1]) (eSc scN):=WK.aggs (.cons (WK.ints [2]) (.zs .nil))
theorem wrow:WKs [aI 1,.lst true [],aI 1,.lst true [[aI 0],[aI 1]]] (cBd ⟨rE,rF⟩) := .zs (.cons (WK.ints []) (.zs (.cons (WK.ints [0,1]) .nil)))
theorem wbs:WK (.lst true [[aI 1,.lst true [],aI 1,.lst true [[aI 0],[aI 1]]],[aI 1,.lst true [],aI 1,.lst true [[aI 0],[aI 1]]]]) (lBd bsN):=wH ⟨wrow,wrow,trivial⟩
theorem w4(q):WKs [.agg [.lst true [[aS ⟨#[65]⟩,aB false]],.lst true [[aS ⟨#[102]⟩,.lst true [[aI 0]],aB false],[aS ⟨#[103]⟩,.lst true [[aI 0]],aB false]],.lst true [],.lst true []],.agg [.lst true [[aI 2]],aI 1],.lst true [[aI 1,.lst true [],aI 1,.lst true [[aI 0],[aI 1]]],[aI 1,.lst true [],aI 1,.lst true [[aI 0],[aI 1]]]],eNd q] [eTS tsN,eSc scN,lBd bsN,eNd q] := .cons wts (.cons wsc (.cons wbs (.zk (qC q) .nil)))
theorem w2{full}(op ks):WKs [aI op,.lst full (ks.map cNd)] [aI op,lNd ks] := .zs (.cons (wl ks) .nil)
theorem w5(q):WKs [.agg [.lst true [[aS ⟨#[65]⟩,aB false]],.lst true [[aS ⟨#[102]⟩,.lst true [[aI 0]],aB false],[aS ⟨#[103]⟩,.lst true [[aI 0]],aB false]],.lst true [],.lst true []],.agg [.lst true [[aI 2]],aI 1],.lst true [[aI 1,.lst true [],aI 1,.lst true [[aI 0],[aI 1]]],[aI 1,.lst true [],aI 1,.lst true [[aI 0],[aI 1]]]],.lst true [],eNd q] [eTS tsN,eSc scN,lBd bsN,lPm [],eNd q] := .cons wts (.cons wsc (.cons wbs (.cons (wH (by trivial)) (.zk (qC q) .nil))))
theorem wrowE:WKs [aI 1,.lst true [],aI 1,.lst true []] (cBd ⟨rE,rE⟩) := .zs (.cons (WK.ints []) (.zs (.cons (WK.ints []) .nil)))
theorem qe2:WKs [aI 1,.lst true [[aI 0],[aI 1]],aI 1,.lst true [[aI 0],[aI 1]]] (cBd ⟨rF,rF⟩) := .zs (.cons (WK.ints [0,1]) (.zs (.cons (WK.ints [0,1]) .nil)))
theorem k8(a)(h:a.length<=10)(g:∀ x,x∈a->x.lo.ts.length<=10/\x.up.ts.length<=10):qh qd 25 [lBd a,lBd a] (aB true):=by
 have:=qqK a a zOm (fun x i=>zW1 (g x i))
 rwa[decide_eq_true rfl]at this
theorem insF:qh qd 26 [eBd ⟨rF,rF⟩,eBd ⟨rF,rF⟩] (aB true):=
 qqJ ⟨rF,rF⟩ ⟨rF,rF⟩ ⟨⟨zDe,zDe⟩,zDe,zDe⟩ ⟨⟨zDe,zDe⟩,zDe,zDe⟩
theorem headN(j:∃ b,b[0]?.map (fun x=>x.up.ar)=some 1/\qh qd 24 [eTS tsN,eSc scN] (lBd b)):qh qd 6 [] (aB true):=by
 refine qSU call6 func6 rfl ?_;refine fW (wC ⟨#[102]⟩) (.zs .nil) ?_;refine fW (wC ⟨#[103]⟩) (.zs .nil) ?_;refine fG [0,1,2,3,4,5,6,7,8,9,10,11] [(0,0,[]),(1,0,[]),(2,0,[]),(3,0,[]),(4,0,[]),(5,1,[0,1]),(6,1,[]),(7,0,[]),(8,0,[]),(9,0,[]),(10,0,[]),(11,0,[])] zKr zKr zSi ?_;simp[go_sem];refine fW (jx 35 [fN]) (w2 35 [fN]) ?_;refine fW fix1 (w4 q1) ?_;refine fG [0,1,2,3,7,8,9,4,5,6,10,11,12,13,14,15,16,17,18,19,20] [(0,0,[]),(1,0,[]),(2,0,[]),(3,0,[]),(7,0,[]),(8,0,[]),(9,0,[]),(4,1,[0,1,3,7,8]),(5,0,[]),(6,1,[0,1,7,8]),(10,1,[0,1]),(11,0,[]),(12,1,[0,1]),(13,0,[]),(14,1,[0,1]),(15,1,[]),(16,0,[]),(17,0,[]),(18,0,[]),(19,0,[]),(20,0,[])] zKr zKr zSi ?_;simp[go_sem];refine fW (wC ⟨#[65]⟩) (.zs .nil) ?_;refine fW (jx 33 [fN,aN]) (w2 33 [fN,aN]) ?_;refine fW (jx 8 [gN,fN]) (w2 8 [gN,fN]) ?_;refine fW (jx 35 [nd 8 [gN,fN]]) (w2 35 [nd 8 [gN,fN]]) ?_;refine fW (jx 41 [nd 33 [fN,aN],nd 35 [nd 8 [gN,fN]]]) (w2 41 [nd 33 [fN,aN],nd 35 [nd 8 [gN,fN]]]) ?_;refine fW fix2 (w4 q2) ?_;refine fG [0,1,2,3,4,6,7,5,8,9,10,11,12,13,14,15,16] [(0,0,[]),(1,0,[]),(2,0,[]),(3,0,[]),(4,0,[]),(6,0,[]),(7,0,[]),(5,1,[0,1,6]),(8,1,[0,1]),(9,0,[]),(10,1,[0,1]),(11,1,[]),(12,0,[]),(13,0,[]),(14,0,[]),(15,0,[]),(16,0,[])] zKr zKr zSi ?_;simp[go_sem];refine fW (jx 34 [fN]) (w2 34 [fN]) ?_;refine fW (jx 35 [fN]) (w2 35 [fN]) ?_;refine fW (jx 41 [nd 34 [fN],nd 35 [fN]]) (w2 41 [nd 34 [fN],nd 35 [fN]]) ?_;refine fW fix3 (w4 q3) ?_;refine fG [0,1,2,3,4,5,6,7,8,9,10,11] [(0,0,[]),(1,0,[]),(2,0,[]),(3,1,[0,1]),(4,0,[]),(5,1,[0,1]),(6,1,[]),(7,0,[]),(8,0,[]),(9,0,[]),(10,0,[]),(11,0,[])] zKr zKr zSi ?_;simp[go_sem];refine fW (wC ⟨#[104]⟩) (.zs .nil) ?_;refine fW (jx 34 [nm ⟨#[104]⟩]) (w2 34 [nm ⟨#[104]⟩]) ?_;refine fW fix4 (w4 q4) ?_;refine fG [0,1,2,3,4,5,6,7,8,9,10,13,11,12] [(0,0,[]),(1,0,[]),(2,0,[]),(3,0,[]),(4,1,[0,1,3]),(5,0,[]),(6,1,[0,1]),(7,1,[]),(8,0,[]),(9,0,[]),(10,0,[]),(13,0,[]),(11,2,[0,1,3]),(12,1,[])] zKr zKr zSi ?_;simp[go_sem];refine fW (wC ⟨#[65]⟩) (.zs .nil) ?_;refine fW (jx 6 [fN,aN]) (w2 6 [fN,aN]) ?_;refine fW up7 (w5 q7) ?_;refine fG [0,1,3,4,2,5,6,7,8,9,10,11,12,13] [(0,0,[]),(1,0,[]),(3,0,[]),(4,0,[]),(2,1,[3]),(5,1,[]),(6,0,[]),(7,1,[]),(8,0,[]),(9,1,[]),(10,0,[]),(11,1,[]),(12,1,[]),(13,0,[])] zKr zKr zSi ?_;simp[go_sem];refine fW (jx 34 [fN]) (w2 34 [fN]) ?_;refine fW (jx 35 [gN]) (w2 35 [gN]) ?_;refine fW (jx 48 [nd 35 [gN]]) (w2 48 [nd 35 [gN]]) ?_;refine fW (jx 41 [nd 34 [fN],nd 48 [nd 35 [gN]]]) (w2 41 [nd 34 [fN],nd 48 [nd 35 [gN]]]) ?_;refine fW (jx 48 [nd 41 [nd 34 [fN],nd 48 [nd 35 [gN]]]]) (w2 48 [nd 41 [nd 34 [fN],nd 48 [nd 35 [gN]]]]) ?_;refine fW con6 (.zk (qC q6) .nil) ?_
 refine fG [0,1,2,3,4,5,8,6,7,9,10,11,12,13,14,15,16,17,18] [(0,0,[]),(1,0,[]),(2,0,[]),(3,0,[]),(4,0,[]),(5,0,[]),(8,0,[]),(6,1,[0,1,8]),(7,1,[0,1,8]),(9,0,[]),(10,1,[0,1]),(11,0,[]),(12,1,[0,1]),(13,1,[]),(14,0,[]),(15,0,[]),(16,0,[]),(17,0,[]),(18,0,[])] zKr zKr zSi ?_;simp[go_sem];refine fW (jx 6 [fN,gN]) (w2 6 [fN,gN]) ?_;refine fW (wC ⟨#[65]⟩) (.zs .nil) ?_;refine fW (jx 8 [aN,gN]) (w2 8 [aN,gN]) ?_;refine fW (jx 32 [nd 6 [fN,gN],nd 8 [aN,gN]]) (w2 32 [nd 6 [fN,gN],nd 8 [aN,gN]]) ?_;refine fW fix5 (w4 q5) ?_;obtain⟨b,g,i⟩:=j
 match b,g with
 |x :: I,g =>
 have l:x.up.ar=1:=zUs g;refine t7 i (.cons wts (.cons wsc .nil)) ?_;simp[go_sem,l];refine fD ?_;refine fW (k8 [⟨rE,rE⟩,⟨rE,rF⟩] zDe zDe) (.zk (w6 _) (.cons (wH ⟨wrowE,wrow,trivial⟩) .nil)) ?_;refine fW (k8 [⟨rF,rF⟩,⟨rE,rF⟩] zDe zDe) (.zk (w6 _) (.cons (wH ⟨qe2,wrow,trivial⟩) .nil)) ?_;refine t7 insF (.zk (yr ⟨rF,rF⟩) (.cons (WK.aggs qe2) .nil)) ?_;have o:(nd 48 [nd 34 [fN]]).op=48:=rfl;have p:(nd 48 [nd 35 [gN]]).op=48:=rfl;have t:(nd 48 [nd 35 [gN]]).sD=[nd 35 [gN]]:=rfl;have C:(nd 35 [gN]).op=35:=rfl;simp[go_sem,o,p,t,C];refine fW (k8 bsN zDe zDe) (.zk (w6 _) (.cons wbs .nil)) ?_;exact .zsc _
theorem headU:qh qd 6 [] (aB true):=
 headN ⟨GP.defB tsN scN,zKr,ON.qr6 tsN scN F0.fit9⟩
end OM
set_option maxHeartbeats 1000000
namespace W71
open P1 KE OI
theorem bd_ok{ts n b}(g:BdS ts n b)(j:0<=n)(o:n<=12):∀ x,x∈b->BdOk x:=fun x p=>by
 obtain⟨i,l,rfl⟩:=uW.1 p;have:=g.b.2 i l (by rw[<-g.b.1];exact l);have t:=this.lo.len j zOm;have C:=this.up.len j zOm;exact⟨⟨zOm,this.lo.srt⟩,zOm,this.up.srt⟩
end W71
set_option maxHeartbeats 1000000
namespace OQ
open Y1 P1 YF E1 E3 E4 EO EP F4 GF GR O0 O8 EQ ER F6 GB GQ GS GW OF OK KX OP OS W71 I1 I2
structure MdO (ts:TS) (sc:Sc) (bs:List Bd) (pk:List Bool) (fr:List (Int×Int)) (N:Nat) (L:Int) (Q:Nat) (av:AV) (A:Nat->List Rl) (k:Nat) (st:St):Prop where
 e2:st.tm 2=lBd bs
 e3:st.tm 3=lB pk
 e5:st.tm 5 = .ip (cTS ts)
 e6:st.tm 6 = .ip [lI sc.sC,aI N]
 e10:st.tm 10 = .ptr 0 0
 e11:st.tm 11 = .ptr Q 0
 e12:st.tm 12=lP fr
 e13:st.tm 13=aI ((k*fr.length:Nat):Int)
 e14:st.tm 14=aI k
 h0:st.mu[0]?=some (.arr [.lst true [],aI 0,.lst true [],aI 0])
 ha:Own st.mu 1 av (sc.sC.map rI)
 hm:∃ s,st.mu[Q]?=some (.arr [av,aI N,s,aI L])/\Own st.mu 1 s (((qr k).map A).map fun r=>[lRel r])/\∀ b,qo s=some b->Q<b
structure MdI (ts:TS) (sc:Sc) (bs:List Bd) (pk:List Bool) (fr:List (Int×Int)) (N:Nat) (Q:Nat) (k:Nat) (M:Mu) (W:List Rl) (st:St):Prop where
 e2:st.tm 2=lBd bs
 e3:st.tm 3=lB pk
 e5:st.tm 5 = .ip (cTS ts)
 e6:st.tm 6 = .ip [lI sc.sC,aI N]
 e10:st.tm 10 = .ptr 0 0
 e11:st.tm 11 = .ptr Q 0
 e12:st.tm 12=lP fr
 e14:st.tm 14=aI k
 ho:Own st.mu 2 (st.tm 15) (W.map cRel)
 hb:∀ b,qo (st.tm 15)=some b->M.length<=b
 hM:∀ i,i<M.length->st.mu[i]?=M[i]?
theorem MdI.ml{ts sc bs g i N Q k M W st}(I:MdI ts sc bs g i N Q k M W st):M.length<=st.mu.length:=by
 by_cases h:0<M.length
 .have:=I.hM (M.length-1) zOm
  rw[qw (show M.length-1<M.length by omega)]at this;have:=(qj.1 this).1;omega
 .omega
theorem qr7{ts sc bs n}(F:F10 ts sc bs n)(T lp)(cs:0<=lp/\lp<=255) :
  qh qd 11 [eTS ts,eSc sc,lBd bs,lB T,.sc (.int .u8 lp)] (eMd (mdM sc (vsT ts) bs T lp)):=by
 have ct:=F.sz.1;simp only[uR,qB,decide_eq_true_eq]at ct;have s1:1<=sc.sN:=zOm;have s4:sc.sN<=4:=zOm;have bh:=F.bnd.len;have dy:=F.P.fl;have cu:=F.nws.h12;have bi:=F.nws.s.n0;have ag:=bd_ok F.bds bi cu;have b5:=qrX bs zOm fun x hx=>⟨(ag x hx).2.1,(ag x hx).1.1,(ag x hx).1.2.imp fun h=>zOm⟩
 have dz:=Kh bs 0 fun x hx=>⟨(ag x hx).2.1,(ag x hx).1.1,(ag x hx).1.2.imp fun h=>zOm⟩
 have cv:=F.nws.s.g.1;have bj:=U2 (bs:=bs) (fun b hb=>(F.bnd.so b hb).1) F.bnd.sub;have bl:=U3 bs;have cw:=fun s:Nat=>U4 (bs:=bs) (fun b hb=>(F.bnd.so b hb).1) F.bnd.sub (vsT ts) T s
 have cx:mdS (vsT ts) bs T 0=yw T (zo bs 0) (0*(zo bs 0).length) (bs.map fun b=>b.lo):=by rw[Nat.zero_mul];rfl
 have cy:=fun (k:Nat) (h:k≠0)=>qr0 (vsT ts) bs T h
 generalize e0:zo bs 0=fr at *
 have cz:=fun (l:List (Int×Int)) (h:∀ q,q∈l->q∈fr) (k:Nat)=>Vh T l k (fun q hq=>bl q (h q hq)) bj
 generalize hS:sc.sN=S at *
 obtain⟨N,rfl⟩:=Int.eq_ofNat_of_zero_le (show 0<=S by omega);refine qSU call11 func11 rfl ?_;refine fG [0,1,2,4,5,7,8,9,10,11,3,6,12,13,14] [(0,0,[]),(1,0,[]),(2,0,[]),(4,0,[]),(5,0,[]),(7,0,[]),(8,0,[]),(9,0,[]),(10,0,[]),(11,0,[]),(3,1,[5,10]),(6,0,[]),(12,0,[]),(13,2,[2,5,10]),(14,1,[])] zKr zKr zSi ?_;have n1:¬(N:Int)<1:=zOm;have n0:¬(N:Int)=0:=zOm;have bm:¬N=0:=zOm;have wl:qm.wrap lp=lp:=zWr;have tm:lp.tmod (N:Int)=lp % (N:Int):=ui cs.1;simp[go_sem,hS,n1,bm,wl,tm];refine qu.ownB (e:=3) (sz:=1) (bt:=8) (zv:=aI 0) (xs:=[]) (ys:=sc.sC.map rI) zSi zSi zSi rfl rfl zOm zOm (.inl zSi) (by simp[qy]) (fun r hr=>absurd hr qN) (yY _) zSo ?_;intro t a2 aa bn bo bq;simp only[jp]at aa;generalize hL:lp % (N:Int)=L at *
 have da:mdM sc (vsT ts) bs T lp=⟨sc,(qr N).map (mdS (vsT ts) bs T),L⟩:=by rw[mdM,hS,hL];rfl
 rw[da];generalize hA:mdS (vsT ts) bs T=A at *
 have b6:=bn 0 zSp (by simp[qo]);simp at b6;simp[go_sem,hS,n1,bm,wl,tm,hL,Own.one aa,Own.cells aa];refine fW b5 (.zk (w6 bs) .nil) ?_;have db:0<a2.length:=by simp at bq;omega
 refine aP N (MdO ts sc bs T fr N L a2.length t A) ?_ ?_
 .refine ⟨zSi,zSi,zSi,zS1 hS,zSi,zSi,zSi,zSi,zSi,?_,?_,.lst true [],zSi,.inl zSp,by simp[qo]⟩
  .show (a2++_)[0]?=_
   rw[qI db];exact b6
  .simpa [go_sem] using Own.push aa _
 have br:qo t≠some 0:=fun h=>by have:=bo _ h;simp at this
 clear b6 bn bo bq;rintro k U hk ⟨e2,e3,e5,e6,b7,b8,bu,J,au,h0,ha,s,hm,ho,hb⟩;have b9:=(qj.1 h0).1;have bv:=(qj.1 hm).1;by_cases bw:k<N
 .have w1:=zWk k
  have n4:(k:Int)<4:=zOm;generalize hM:U.mu=M at *
  simp[go_sem,hS,e6,au,bw,n4,hM];refine aP bs.length (fun j st2=>MdI ts sc bs T fr N a2.length k M ((bs.take j).map fun b=>b.lo) st2/\st2.tm 13=aI ((k*fr.length:Nat):Int)/\st2.tm 16=aI j/\(0<j->∃ b,qo (st2.tm 15)=some b)) ?_ ?_
  .exact ⟨⟨zS1 e2,zS1 e3,zS1 e5,zS2 e6 hS,zS1 b7,zS1 b8,zS1 bu,zS1 au,.inl zSi,by simp[go_sem,qo],zS1 hM⟩,zS1 J,zSi,fun h=>absurd h zOm⟩
  clear e2 e3 e5 e6 b7 b8 bu J au hM U;rintro j U hj ⟨I,J,aw,a1⟩;by_cases o:j<bs.length
  .have w2:=zWk j
   have ax:bs.take (j+1)=bs.take j++[bs[j]]:=yd o;simp[go_sem,I.e2,aw,o];refine .inl (jN.ownB (e:=42) (sz:=2) (bt:=32) (zv := .agg [aI 0,.lst true []]) (xs:=((bs.take j).map fun b=>b.lo).map cRel) (ys:=[cRel bs[j].lo]) zSi zSi zSi rfl rfl zOm zOm I.ho (by simp[qy]) (jD _) (jD [_]) zSo ?_);intro bc ay ab ah az dc ca;have dd:=I.ml;have de:∀ i,i<M.length->ay[i]?=M[i]?:=fun i hi=>by rw[ah i zOm (fun h=>zW1 (I.hb i h))];exact I.hM i hi
   simp[go_sem,aw,o,w2,Own.one ab,Own.cells ab]
   try refine⟨o,aM ?_⟩
   try refine aM ?_
   refine⟨⟨by simp[go_sem,I.e2],by simp[go_sem,I.e3],by simp[go_sem,I.e5],by simp[go_sem,I.e6],by simp[go_sem,I.e10],by simp[go_sem,I.e11],by simp[go_sem,I.e12],by simp[go_sem,I.e14],?_,fun b h=>zW1 (az b (zVs h)),zVs de⟩,zS1 J,zSi,fun _=>by simpa[go_sem] using ca zSp⟩;rw[ax,zh,zh];simpa[go_sem] using ab
  .have ai:j=bs.length:=by omega
   subst ai;rw[q8]at I;simp[go_sem,I.e2,aw];have e1:k*fr.length<=3*fr.length:=Nat.mul_le_mul_right _ zOm;refine aP fr.length (fun j st2=>MdI ts sc bs T fr N a2.length k M (yw T (fr.take j) (k*fr.length) (bs.map fun b=>b.lo)) st2/\st2.tm 13=aI ((k*fr.length+j:Nat):Int)/\st2.tm 17=aI j/\(0<bs.length->∃ b,qo (st2.tm 15)=some b)) ?_ ?_
   .exact ⟨⟨by simp[go_sem,I.e2],by simp[go_sem,I.e3],by simp[go_sem,I.e5],by simp[go_sem,I.e6],by simp[go_sem,I.e10],by simp[go_sem,I.e11],by simp[go_sem,I.e12],by simp[go_sem,I.e14],by simpa[go_sem,yw] using I.ho,by simpa[go_sem] using I.hb,by simpa[go_sem] using I.hM⟩,zS1 J,zSi,fun h=>by simpa[go_sem] using a1 h⟩
   clear I J aw a1 hj o U;rintro j U hj ⟨I,J,a6,a1⟩;by_cases o:j<fr.length
   .have w2:=zWk j
    have w3:qm.wrap (((k*fr.length+j:Nat):Int)+1)=((k*fr.length+(j+1):Nat):Int):=by rw[zWr];omega
    obtain⟨f,hf,cb,df⟩:=bl _ (qv o);have ad:=qrZ T fr (k*fr.length) j (bs.map fun b=>b.lo) o;have hW:=cz (fr.take j) (fun q hq=>vM hq) (k*fr.length);generalize hq:fr[j]=q at *
    obtain⟨q1,q2⟩:=q;simp only at cb df;subst cb;generalize e4:yw T (fr.take j) (k*fr.length) (bs.map fun b=>b.lo)=W at *
    generalize cv:k*fr.length+j=a3 at *
    simp[go_sem,I.e12,a6,o,hq];by_cases hp:0<T.length
    .have be:a3 % T.length<T.length:=Nat.mod_lt _ hp
     have dh:((a3:Nat):Int).tmod (T.length:Int)=((a3 % T.length:Nat):Int):=by rw[ui zOm];rfl
     have b0:pkAt T a3=T[a3 % T.length]:=by unfold pkAt;rw[zr,qw be];simp[hp]
     have di:¬T.length=0:=zOm;simp[go_sem,I.e3,J,hp,di,dh,be];have dj:((a3:Int) % (T.length:Int)).toNat=a3 % T.length:=zOm;refine tZ (.ip [aB T[a3 % T.length]]) (by rw[if_pos ⟨zOm,zOm⟩,dj,qw be];rfl) ?_;generalize e8:T[a3 % T.length]=bb at *
     cases bb with
     |true =>
      rw[if_pos b0]at ad;obtain⟨bk,C⟩:=a1 zOm;have e9:W.length=bs.length:=hW.l;have a0:U.tm 15 = .sl bk 2 0 W.length/\U.mu[bk]?=some (.arr (W.map cRel).flatten):=by
       rcases I.ho with h|⟨b',h,hc⟩
       .rw [h]at C;cases C
       .rw [h]at C;cases C
        exact⟨by rw[h];simp,hc⟩
      obtain⟨a0,a7⟩:=a0;simp[go_sem];refine tV zKr ?_;have a4:f<W.length:=zOm;have b1:(W.map cRel).flatten.length=W.length*2:=by rw[yy (jD W).ok];simp
      have bh:=(qj.1 a7).1;have bg:W.getD f noR=W[f]:=by rw[zr,qw a4];rfl
      have cc:=hW.r f a4 hf;have ea:W[f].ts.length<=8000:=by
       have hu:=(F.bds.b.2 f hf zOm).up.len bi zOm;have:=qmL cc.2.1 cc.2.2.2;omega
      have dk:=qrT W[f] ⟨W[f].ar,[q2]⟩ zOm zSp;have dm:put1 W (↑f,q2)=W.set f (unR W[f] ⟨W[f].ar,[q2]⟩):=by simp only[put1,Int.toNat_natCast,bg]
      have ax:((W.map cRel).flatten.drop (f*2)).take 2=cRel W[f]:=by
       have q0:=Wl (jD W).ok f (zUs a4) 0 zOm;have q1:=Wl (jD W).ok f (zUs a4) 1 zOm;rw[Zs]at q0 q1;refine j7 fun i=>?_
       match i with
       | 0=>simpa using q0
       | 1=>simpa[Nat.add_comm] using q1
       |i+2=>rw[uy (by rw[vO];omega)];rfl
      have eb:(W.map cRel).flatten[f*2]?=some (aI W[f].ar):=by
       have q0:=Wl (jD W).ok f (zUs a4) 0 zOm;rw[Zs]at q0;simpa using q0
      rw[dm]at ad;have aj:=VH (W.map cRel) f (cRel (unR W[f] ⟨W[f].ar,[q2]⟩)) (jD W).ok rfl (zUs a4);rw[<-List.map_set]at aj;have ak:(W.set f (unR W[f] ⟨W[f].ar,[q2]⟩)).length=W.length:=List.length_set;generalize unR W[f] ⟨W[f].ar,[q2]⟩=RR at *
      generalize ec:W[f]=WF at *
      generalize ed:(W.map cRel).flatten=FL at *
      rw[y9 _ _ _ (by simp[cRel];omega)]at aj;have b2:FL.take (f*2)++aI RR.ar :: lI RR.ts :: FL.drop (f*2+2)=((W.set f RR).map cRel).flatten:=by rw[aj];simp[cRel]
      have wk2:WK (.agg [aI WF.ar,.lst true [[aI q2]]]) (eRel ⟨WF.ar,[q2]⟩):=WK.aggs (.zs (.cons (WK.ints [q2]) .nil));simp[go_sem,a0,a7,I.e12,a6,o,hq,a4,b1];refine tZ (.agg [aI WF.ar,lI WF.ts]) (by rw[if_pos zOm,ax]) ?_;simp[go_sem,a0,a7,I.e12,a6,o,hq,a4,b1];refine tZ (.sc (.int .i64 WF.ar)) (by rw[if_pos zOm,show (FL.drop (f*2)).take 1=((FL.drop (f*2)).take 2).take 1 by rw[List.take_take];rfl,ax];rfl) ?_;simp[go_sem,a0,a7,I.e12,a6,o,hq,a4,b1];refine t7 dk (.zk (qs WF) (.cons wk2 .nil)) ?_;simp[go_sem,a0,a7,a4,b1];refine tZ (U.mu.set bk (.arr ((W.set f RR).map cRel).flatten)) (by rw[if_pos zOm,b2]) ?_;simp[go_sem,J,a6,w2,w3,o]
      try refine⟨o,aM ?_⟩
      try refine aM ?_
      refine⟨⟨by simp[go_sem,I.e2],by simp[go_sem,I.e3],by simp[go_sem,I.e5],by simp[go_sem,I.e6],by simp[go_sem,I.e10],by simp[go_sem,I.e11],by simp[go_sem,I.e12],by simp[go_sem,I.e14],?_,by simpa[go_sem] using I.hb,fun i hi=>?_⟩,zSi,zSi,fun h=>by simpa[go_sem] using ⟨bk,C⟩⟩
      .rw [ad]
       simp[go_sem];exact .inr ⟨bk,by rw[a0];simp,qH bh⟩
      .simp only[qK]
       rw[List.getElem?_set_ne (fun e=>zW1 (I.hb bk C))];exact I.hM i hi
     |false =>
      rw[b0,if_neg zSp]at ad;simp[go_sem,J,a6,w2,w3]
      try refine⟨o,aM ?_⟩
      try refine aM ?_
      exact⟨⟨by simp[go_sem,I.e2],by simp[go_sem,I.e3],by simp[go_sem,I.e5],by simp[go_sem,I.e6],by simp[go_sem,I.e10],by simp[go_sem,I.e11],by simp[go_sem,I.e12],by simp[go_sem,I.e14],by rw[ad];simpa[go_sem] using I.ho,by simpa[go_sem] using I.hb,by simpa[go_sem] using I.hM⟩,zSi,zSi,fun h=>by simpa[go_sem] using a1 h⟩
    .have cd:T=[]:=List.length_eq_zero_iff.1 zOm
     have b0:pkAt T a3=false:=by unfold pkAt;simp[hp]
     rw[b0,if_neg zSp]at ad;simp[go_sem,I.e3,J,a6,cd,w2,w3];subst cd
     try refine⟨o,aM ?_⟩
     try refine aM ?_
     exact⟨⟨by simp[go_sem,I.e2],by simp[go_sem,I.e3],by simp[go_sem,I.e5],by simp[go_sem,I.e6],by simp[go_sem,I.e10],by simp[go_sem,I.e11],by simp[go_sem,I.e12],by simp[go_sem,I.e14],by rw[ad];simpa[go_sem] using I.ho,by simpa[go_sem] using I.hb,by simpa[go_sem] using I.hM⟩,zSi,zSi,fun h=>by simpa[go_sem] using a1 h⟩
   .have ai:j=fr.length:=by omega
    subst ai;rw[q8]at I;simp[go_sem,I.e12,a6];have cf:=k7 T fr (k*fr.length) (bs.map fun b=>b.lo);rw[zX]at cf;have cg:=cy k;have dx:(A 0).length=bs.length:=(cw 0).l;have ch:k=0->A k=yw T fr (k*fr.length) (bs.map fun b=>b.lo):=fun h=>by subst h;exact cx
    have cj:k*fr.length+fr.length=(k+1)*fr.length:=by rw[Nat.succ_mul]
    rw[cj]at J;generalize ee:yw T fr (k*fr.length) (bs.map fun b=>b.lo)=R at *
    refine aP bs.length (fun j st2=>MdI ts sc bs T fr N a2.length k M (if k=0 then R else fixS (vsT ts) (A 0) R j) st2/\st2.tm 13=aI (((k+1)*fr.length:Nat):Int)/\st2.tm 19=aI j/\(0<bs.length->∃ b,qo (st2.tm 15)=some b)) ?_ ?_
    .exact ⟨⟨by simp[go_sem,I.e2],by simp[go_sem,I.e3],by simp[go_sem,I.e5],by simp[go_sem,I.e6],by simp[go_sem,I.e10],by simp[go_sem,I.e11],by simp[go_sem,I.e12],by simp[go_sem,I.e14],by simpa[go_sem,qmG] using I.ho,by simpa[go_sem] using I.hb,by simpa[go_sem] using I.hM⟩,zS1 J,zSi,fun h=>by simpa[go_sem] using a1 h⟩
    clear I J a6 a1 hj o U;rintro j U hj ⟨I,J,a8,a1⟩;have ak:(if k=0 then R else fixS (vsT ts) (A 0) R j).length=bs.length:=by split<;>simp[qmH,cf]
    have dn:k≠0->j<bs.length->(if k=0 then R else fixS (vsT ts) (A 0) R (j+1))=if (vsT ts).getD j true=false then (if k=0 then R else fixS (vsT ts) (A 0) R j).set j ((A 0).getD j noR) else (if k=0 then R else fixS (vsT ts) (A 0) R j):=fun h1 h2=>by rw[if_neg h1,if_neg h1,qmI _ _ _ _ zOm]
    have dp:¬(j<bs.length/\k≠0)->(if k=0 then R else fixS (vsT ts) (A 0) R j)=A k:=fun h=>by
     by_cases h0:k=0
     .rw [if_pos h0,ch h0]
     .rw [if_neg h0,cg h0,show j=bs.length by omega]
    generalize hW:(if k=0 then R else fixS (vsT ts) (A 0) R j)=W at *
    have ae:U.mu[a2.length]?=some (.arr [t,aI N,s,aI L]):=by rw[I.hM _ bv];exact hm
    have dd:=I.ml;by_cases al:j<bs.length/\k≠0
    .obtain ⟨o,dq⟩:=al
     have dr:(vsT ts).getD j true=ts.sA[j].var:=by rw[zr,List.getElem?_map,qw (show j<ts.sA.length by omega)];rfl
     have w2:=zWk j;have a5:=dn dq o;rw[dr]at a5;simp[go_sem,I.e2,I.e5,I.e14,a8,o,show 0<k by omega,show j<ts.sA.length by omega];cases hv:ts.sA[j].var with
     |true =>
      rw[hv]at a5;replace a5:=a5.trans (if_neg zSp);simp[go_sem,a8,o,w2]
      try refine⟨o,aM ?_⟩
      try refine aM ?_
      exact⟨⟨by simp[go_sem,I.e2],by simp[go_sem,I.e3],by simp[go_sem,I.e5],by simp[go_sem,I.e6],by simp[go_sem,I.e10],by simp[go_sem,I.e11],by simp[go_sem,I.e12],by simp[go_sem,I.e14],by rw[a5];simpa[go_sem] using I.ho,by simpa[go_sem] using I.hb,by simpa[go_sem] using I.hM⟩,zS1 J,zSi,fun h=>by simpa[go_sem] using a1 h⟩
     |false =>
      rw[hv]at a5;replace a5:=a5.trans (if_pos rfl);obtain⟨bk,C⟩:=a1 zOm;have a0:U.tm 15 = .sl bk 2 0 W.length/\U.mu[bk]?=some (.arr (W.map cRel).flatten):=by
       rcases I.ho with h|⟨b',h,hc⟩
       .rw [h]at C;cases C
       .rw [h]at C;cases C
        exact⟨by rw[h];simp,hc⟩
      obtain⟨a0,a7⟩:=a0;have ck:=(qj.1 a7).1;have ef:=I.hb bk C;have an:(W.map cRel).flatten.length=W.length*2:=by rw[yy (jD W).ok];simp
      have ao:j<(A 0).length:=zOm;have bg:(A 0).getD j noR=(A 0)[j]:=by rw[zr,qw ao];rfl
      have cl:(((qr k).map A).map fun r=>[lRel r]).length=k:=zSp;have a9:(((qr k).map A).map fun r=>[lRel r]).flatten[0]?=some (lRel (A 0)):=by
       obtain⟨k',rfl⟩:∃ k',k=k'+1:=⟨k-1,zOm⟩;rw[List.range_succ_eq_map];simp
      generalize aq:(((qr k).map A).map fun r=>[lRel r])=rows at *
      have ds:rows[0]?=some [lRel (A 0)]:=by
       rw[<-aq];obtain⟨k',rfl⟩:∃ k',k=k'+1:=⟨k-1,zOm⟩;rw[List.range_succ_eq_map];rfl
      have cm:(rows.map List.length).sum=k:=by
       have:=yy (sz:=1) (xs:=rows) (by rw[<-aq];intro r hr;obtain⟨n,_,rfl⟩:=qn.1 hr;rfl);rw[List.length_flatten]at this;omega
      have cn:rows.flatten.take 1=[lRel (A 0)]:=by
       cases cp:rows.flatten with
       |nil=>rw[cp]at a9;cases a9
       |cons x l=>rw[cp]at a9;cases a9;rfl
      have b2:(W.map cRel).flatten.take (j*2)++aI (A 0)[j].ar :: lI (A 0)[j].ts :: (W.map cRel).flatten.drop (j*2+2)=((W.set j (A 0)[j]).map cRel).flatten:=by
       rw[List.map_set,VH (W.map cRel) j _ (jD W).ok rfl zSo,y9 _ _ _ (by simp only[an,cRel,yp,List.length_nil];omega)];simp
      rw[bg]at a5;have af:MdI ts sc bs T fr N a2.length k M (if k=0 then R else fixS (vsT ts) (A 0) R (j+1)) ⟨U.tm,U.mu.set bk (.arr ((W.set j (A 0)[j]).map cRel).flatten)⟩:=by
       refine⟨I.e2,I.e3,I.e5,I.e6,I.e10,I.e11,I.e12,I.e14,?_,I.hb,fun i hi=>?_⟩
       .rw [a5]
        exact .inr ⟨bk,by rw[a0];simp,qH ck⟩
       .show (U.mu.set bk _)[i]?=_
        rw[zGl];exact I.hM i hi
      rcases ho with rfl|⟨c,rfl,cq⟩
      .simp [go_sem,I.e11,a8,ae,a0,ak]
       refine tZ (.ip [lRel (A 0)]) (by rw[ds];simp[cl];omega) ?_;simp[go_sem,a8,o,a7,an,ak,ao];refine tZ (U.mu.set bk (.arr ((W.set j (A 0)[j]).map cRel).flatten)) (by rw[if_pos zOm,b2]) ?_;simp[go_sem,a8,o,w2]
       try refine⟨o,aM ?_⟩
       try refine aM ?_
       exact⟨⟨by simp[go_sem,I.e2],by simp[go_sem,I.e3],by simp[go_sem,I.e5],by simp[go_sem,I.e6],by simp[go_sem,I.e10],by simp[go_sem,I.e11],by simp[go_sem,I.e12],by simp[go_sem,I.e14],by simpa[go_sem] using af.ho,by simpa[go_sem] using I.hb,by simpa[go_sem] using af.hM⟩,zS1 J,zSi,fun h=>by simpa[go_sem] using ⟨bk,C⟩⟩
      .have dt:=(qj.1 cq).1
       have b4:=I.hM c dt;rw[cq]at b4;simp[go_sem,I.e11,a8,ae,b4,cl,show 0<k by omega,a0,ak];refine tZ (lRel (A 0)) (by rw[cm,if_pos zOm,cn];rfl) ?_;simp[go_sem,a8,o,a7,an,ak,ao];refine tZ (U.mu.set bk (.arr ((W.set j (A 0)[j]).map cRel).flatten)) (by rw[if_pos zOm,b2]) ?_;simp[go_sem,a8,o,w2]
       try refine⟨o,aM ?_⟩
       try refine aM ?_
       exact⟨⟨by simp[go_sem,I.e2],by simp[go_sem,I.e3],by simp[go_sem,I.e5],by simp[go_sem,I.e6],by simp[go_sem,I.e10],by simp[go_sem,I.e11],by simp[go_sem,I.e12],by simp[go_sem,I.e14],by simpa[go_sem] using af.ho,by simpa[go_sem] using I.hb,by simpa[go_sem] using af.hM⟩,zS1 J,zSi,fun h=>by simpa[go_sem] using ⟨bk,C⟩⟩
    .have du:j<bs.length->¬ 0<k:=fun h=>by omega
     have b3:=I.ho;rw[dp al]at b3;by_cases o:j<bs.length<;>simp[go_sem,I.e2,I.e11,I.e14,a8,o,du,ae,Own.one b3,Own.cells b3]
     all_goals
      refine cL (e:=109) (sz:=1) (bt:=24) (zv := .lst true []) (xs:=((qr k).map A).map fun r=>[lRel r]) [lRel (A k)] M.length zSi zSi zSi rfl rfl zOm zOm ?_ (fun b h=>Own.lt ho h) ?_ ?_ ?_ zSo ?_
      .rcases ho with h|⟨b,h,hc⟩
       .exact .inl h
       .exact .inr ⟨b,h,by rw[I.hM b (qj.1 hc).1];exact hc⟩
      .exact ⟨Own.rd (qa3 b3 I.hb) (jD _).ok fun r hr c hc=>by
        obtain⟨n,_,rfl⟩:=qn.1 hr;exact Yh n c hc,trivial⟩
      .intro r hr
       obtain⟨n,_,rfl⟩:=qn.1 hr;exact⟨rfl,rfl⟩
      .intro r hr
       simp at hr;subst hr;exact⟨rfl,rfl⟩
      intro bc ay ab ah az dc ca;have g1:ay[a2.length]?=some (.arr [t,aI N,s,aI L]):=by rw[ah _ zOm bv (fun h=>zW1 (hb _ h))];exact ae
      have g0:ay[0]?=some (.arr [.lst true [],aI 0,.lst true [],aI 0]):=by rw[ah 0 zOm b9 (fun h=>zW1 (hb 0 h)),I.hM 0 b9];exact h0
      have l1:=(qj.1 g1).1;simp[go_sem,I.e11,I.e14,g1,w1,Own.one ab,Own.cells ab]
      try refine⟨bw,aM ?_⟩
      try refine aM ?_
      refine⟨by simp[go_sem,I.e2],by simp[go_sem,I.e3],by simp[go_sem,I.e5],by simp[go_sem,I.e6],by simp[go_sem,I.e10],by simp[go_sem,I.e11],by simp[go_sem,I.e12],zS1 J,zSi,?_,?_,bc,?_,?_,fun b h=>zW1 (az b h)⟩
      .simp only[qK]
       rw[zGl];exact g0
      .simp only[qK]
       rcases ha with h|⟨b,h,hc⟩
       .exact .inl h
       .have eg:b<a2.length:=Own.lt aa (by rw[h];rfl)
        refine .inr ⟨b,h,?_⟩;rw[zGl,ah b zOm zOm (fun h=>zW1 (hb b h)),I.hM b zOm];exact hc
      .simp only[qK]
       exact qH l1
      .rw [List.range_succ,zh,zh]
       simpa[go_sem] using Own.set ab (.arr [t,aI N,bc,aI L]) (fun h=>zW1 (az _ h))
 .have ai:k=N:=by omega
  subst ai;have cr:∀ c,(U.mu.set 0 c)[0]?=some c:=fun c=>qH b9
  simp[go_sem,hS,e6,b7,b8,au,h0,hm,Own.one ho,Own.cells ho,Own.one aa,Own.cells aa,cr];have dv:=Own.set ho (i:=0) (.arr [t,aI k,s,aI L]) (fun h=>zW1 (hb 0 h));have dw:=Own.set ha (i:=0) (.arr [t,aI k,s,aI L]) br;show Rd _ _ (.agg [lI sc.sC,aI sc.sN,lSt ((qr k).map A),aI L]);rw[hS];refine Rd.aggs ⟨?_,.hf _ (HF.sc _),?_,.hf _ (HF.sc _),trivial⟩
  .exact Own.rd dw (yY _).ok fun r hr c hc=>by
    obtain⟨x,_,rfl⟩:=qn.1 hr;simp at hc;subst hc;exact HF.sc _
  .exact Own.rd dv (fun r hr=>by
    obtain⟨n,_,rfl⟩:=qn.1 hr;rfl) fun r hr c hc=>by
    obtain⟨n,_,rfl⟩:=qn.1 hr;simp at hc;subst hc;exact gV n
end OQ
namespace I4
end I4
namespace KW
open P1 E3 GX KT
variable {x:Mo} {N:Nat}
theorem qr8{ts m}(V:MdV ts m):ArM ⟨ts,m⟩ m.sK.length:=fun s g i j l=>by
 have e:m.sK.getD s []=m.sK[s]:=by simp[zr,qw g]
 simp only[e]at j⊢;exact(V.ar _ (qv g) i j l).1
end KW
set_option maxHeartbeats 1000000
namespace OT
open Y1 P1 E3 GQ GS GX OK KX IC
structure MadeF (ts:TS) (sc:Sc) (bs:List Bd) (N:Nat) (m:Md):Prop where
 hN:sc.sN=N
 h1:1<=N
 h4:N<=4
 B:Betw sc (vsT ts) bs N m
 V:MdV ts m
theorem qr9{ts sc bs n}(F:F10 ts sc bs n)(j lp):MadeF ts sc bs sc.sN.toNat (mdM sc (vsT ts) bs j lp):=by
 have g:=F.sz.1;simp only[uR,qB,decide_eq_true_eq]at g;have i:sc.sN=(sc.sN.toNat:Int):=zOm;have B:=qoQ F.bnd i zOm (vsT ts) j lp;exact⟨i,zOm,zOm,B,qoR F.fit9 F.sz.1 F.bnd i B⟩
end OT
set_option maxHeartbeats 1000000
namespace OV
open Y1 Y9 P1 P2 PF E3 EA KA PE KB KG Q4 Q6 F2 E7 KI OM KT KJ KL E8
theorem qe3(P Q:Nd->Prop)(T:∀{n k},P n->k∈n.sD->P k)(I:∀ n,P n->Q n)(U:∀(n k y) (p),P n->n.op=48->n.sD=[k]->Q y->dN y<=dN k->Q (jn p y))(hd:∀ y,Q y->True):∀ m n,szN n<=m->WfN n->P n->∀ y,y∈conj n->Q y/\dN y<=dN n
 | 0,n,hm,_,_=>by obtain⟨op,nm,i,ks,p⟩:=n;simp[szN]at hm
 |m+1,n,hm,C,J=>fun y g=>by
  rw[Vg]at g;have get:∀ i z,z∈(n.sD.map conj).getD i []->∃ k,k∈n.sD/\z∈conj k/\Q z/\dN z<=dN k:=fun i z l=>by
   by_cases R:i<n.sD.length
   .rw [zr,qw (zUs R)]at l
    simp only[Option.getD_some,Zs]at l;have j:=qv R;obtain⟨a,b⟩:=qe3 P Q T I U hd m n.sD[i] (zW1 (qZ j)) (C.kid j) (T J j) z l;exact⟨_,j,l,a,b⟩
   .rw [zr,uy (zUs R)]at l
    cases l
  have low:∀ z k,k∈n.sD->dN z<=dN k->dN z+1<=dN n:=fun z k I h2=>by
   have:=mN I;rw[UB n];omega
  split at g
  .rcases qJ.1 g with g|g
   .obtain ⟨k,a,_,b,c⟩:=get 0 y g
    exact⟨b,zW1 (low y k a c)⟩
   .obtain ⟨k,a,_,b,c⟩:=get 1 y g
    exact⟨b,zW1 (low y k a c)⟩
  split at g
  .rename_i o
   obtain⟨z,l,rfl⟩:=qn.1 g;obtain⟨k,a,_,b,c⟩:=get 0 z l;obtain⟨k',t,_⟩:=uu (a:=102) C (by unfold shp;rw[zIn,zIn,zIn,zIn,zIn,if_pos zOm]);rw[t]at a;simp only[qQ]at a;subst a;refine⟨U n k z n.pos J o t b c,?_⟩;have:=low z k (by rw[t];simp) c;unfold jn;split
   .omega
   .rw [UB]
    simp[Nd.sD,dNs];omega
  .simp at g;subst g;exact⟨I _ J,qk _⟩
theorem qe4{n}(i:WfN n)(h:NoC n):∀ y,y∈conj n->NoC y/\dN y<=dN n:=
 qe3 NoC NoC (fun h j=>h.kid j) (fun _ h=>h) (fun n k y p _ _ _ g _=>by
  unfold jn;split
  .exact g
  .unfold NoC at g⊢
   rw[anyN,jW,g];rfl) (fun _ _=>trivial) _ n (qk _) i h
theorem qe5{x N}(p:OkM x N)(R:ArM x N){c}(T:okCk c)(U:c.ts=x.ts){y}(h:FmA c y)(P:NoC y){s}(C:s<N):∃ v,(den x y).F ⟨s,[]⟩ = .ok v:=by
 have base:∀{k:Nd},Fm c k->NoC k->∀ t,t<N->∃ v,(den x k).F ⟨t,[]⟩ = .ok v:=fun {k} hf i t I=>by
  obtain⟨w,k2,b,ko,g⟩:=hf;exact(qc1 p R T U _ k [] b ko ⟨t,[]⟩ (qk _) w i (fun e g=>by cases g) ⟨I,fun e g=>by cases g⟩ EnvR.nil g).2.2 k2
 rcases h with h|⟨o,k,i,hf⟩
 .exact base h P s C
 .have J:NoC k:=P.kid (by rw[i];simp)
  obtain⟨l,hl⟩:∃ l,mapX (fun s=>(den x k).F ⟨s,[]⟩) (x.path s) = .ok l:=UZ fun t I=>by
   obtain⟨j,rfl⟩:=ZT p.toOkX C I;exact base hf J _ (ZM p.toOkX C j)
  rw[wB,i];exact⟨_,by simp[opD,opF,o,kD,hl,bX];rfl⟩
theorem fm_of{ts n}(i:zT n=true)(j:anyN (fun n=>decide (n.op=47)) n=false)(l:(jd ts [] n).1=0):Fm (mkCk ts ts.sT.length) n/\NoC n:=by
 obtain⟨g,o,p⟩:=UY l;exact⟨⟨vj i,qcL (vj i) g,false,o,p⟩,j⟩
def vF(x:Mo)(s:Nat)(y:Nd):Bool:=match (den x y).F ⟨s,[]⟩ with
 | .ok v=>v
 | .error _=>false
theorem Wm{x s y v}(h:(den x y).F ⟨s,[]⟩ = .ok v):vF x s y=v:=by unfold vF;rw[h]
theorem qsA{x N}(X:NwX x N)(t:ArM x N){c}(C:okCk c)(I:c.ts=x.ts){n}(h:Fm c n)(J:NoC n){s}(l:s<N) :
  (den x n).F ⟨s,[]⟩ = .ok (vF x s n)/\(∀ y,y∈conj n->(den x y).F ⟨s,[]⟩ = .ok (vF x s y))/\vF x s n=(conj n).all (vF x s):=by
 obtain⟨v,o⟩:=qe5 X.M t C I (.inl h) J l;have g:∀ y,y∈conj n->(den x y).F ⟨s,[]⟩ = .ok (vF x s y):=fun y g=>by
  obtain⟨w,P⟩:=qe5 X.M t C I (Jc _ n (qk _) h y g) (qe4 h.1 J y g).1 l;rw[P,Wm P]
 have i:=Wm o;refine⟨by rw[o,i],g,?_⟩;have p:=qoI X h l;unfold Tr at p;rw[Bool.eq_iff_iff,qY];constructor
 .intro e y j
  have:=p.1 (by rw[o,<-i,e]) y j;exact Wm this
 .intro e
  have:=p.2 fun y j=>by rw[g y j,e y j]
  exact Wm this
end OV
set_option maxHeartbeats 1000000
namespace W75
open Y1 P1 P2 PA PF YE YF E3 EO EP F1 KA O0 OD Y10 Y14 Q1 Q2 Q4 Q6 F2 FB FD OE GS KV OK KX OM OQ IC KW OT OV KL
structure CoI (ts:TS) (m:Md) (N:Nat) (s0:Nat) (is:Bool) (L:List Nd) (a:Bool) (k:Nat) (st:St):Prop where
 e6:st.tm 6 = .ip (cTS ts)
 e13:st.tm 13=aB true
 e14:st.tm 14 = .ptr 0 0
 e15:st.tm 15=aI s0
 e16:st.tm 16=aB is
 e17:st.tm 17=aI 0
 e18:st.tm 18=lNd L
 e19:st.tm 19=aB a
 e20:st.tm 20=aI k
 hm:st.mu[0]?=some (.arr (cMd m))
theorem conjT(ts)(hs:∀ x,x∈ts.sS->x.1.size<=4611686018427387904)(sc bs n C lp)(J:0<=lp/\lp<=255)(hH:qh qd 6 [] (aB true)) :
  qh qd 4 [eTS ts,eSc sc,lBd bs,eNd n,lB C,.sc (.int .u8 lp)] (aB true):=by
 refine qSU call4 func4 rfl ?_;refine fW hH .nil ?_;have wf:∀(b:List Bd)(q:Nd),WKs [eTS ts,eSc sc,lBd b,eNd q] [eTS ts,eSc sc,lBd b,eNd q]:=fun b q => .zk (zA ts) (.zk (zF sc) (.zk (w6 b) (.zk (qC q) .nil)))
 refine t7 (X8 ts hs sc bs n) (wf bs n) ?_;cases hf:f10 ts sc bs n with
 |false =>
  simp[go_sem];exact .zsc _
 |true =>
 have F:=qrS hs hf;have t:=vj F.hn;simp[go_sem];refine t7 (qaK n.op) (.zs .nil) ?_;by_cases hk:kd n.op=102
 case neg =>
  simp[go_sem,hk];exact .zsc _
 simp[go_sem,hk];refine t7 (Ke _ n (qk _) t.small) (.zk (qC n) .nil) ?_;cases a3:anyN (fun n=>decide (n.op=47)) n with
 |true =>
  simp[go_sem];exact .zsc _
 |false =>
 simp[go_sem];refine t7 (m9 ts F.S.h F.S.wp n t [] ⟨zSp,zSp⟩) (.zk (zA ts) (.cons (QB.wH (by trivial)) (.zk (qC n) .nil))) ?_;by_cases h0:(jd ts [] n).1=0
 case neg =>
  simp[go_sem,h0];exact .zsc _
 simp[go_sem,h0];have a4:0<=lp.tdiv 4/\lp.tdiv 4<=255:=by
  rw[Int.tdiv_eq_ediv_of_nonneg J.1];omega
 have wq:IntKind.u8.wrap (lp.tdiv 4)=lp.tdiv 4:=by
  simp only[IntKind.wrap,IntKind.bits,IntKind.signed,Bool.false_and];rw[if_neg Bool.false_ne_true];omega
 have cm:=qr7 F C (lp.tdiv 4) a4;have M:=qr9 F C (lp.tdiv 4);generalize lp.tdiv 4=lq at *
 generalize mdM sc (vsT ts) bs C lq=m at cm M;generalize sc.sN.toNat=N at M;have a5:=M.B.ns;have h1:=M.h1;have h4:=M.h4;have P:=qoO F.S.h M.V;have X:=qoM M.V;have hA:=qr8 M.V;rw[a5]at X hA P;obtain⟨fm,nc⟩:=fm_of F.hn a3 h0;have l:(lp % (N:Int)).toNat<N:=by
  have a:=Int.emod_nonneg lp (b:=(N:Int)) zOm;have b:=Int.emod_lt_of_pos lp (b:=(N:Int)) zOm;omega
 have R:lp % (N:Int)=(((lp % (N:Int)).toNat:Nat):Int):=by
  have a:=Int.emod_nonneg lp (b:=(N:Int)) zOm;omega
 have tm:lp.tmod (N:Int)=lp % (N:Int):=ui J.1;generalize (lp % (N:Int)).toNat=o at l R;have p:=M.hN;obtain⟨v1,v2,v3⟩:=qsA X hA (uo F.S.h (qk _)) rfl fm nc l;have ad:=ql5 F.hn;have i:=fun (y:Nd) (T:WfN y) (hd:dN y<=dN n)=>qlI ⟨ts,m⟩ N y T P ⟨o,[]⟩ ⟨l,fun e he=>by cases he⟩ (by show 0+dN y<=_;omega)
 have c0:=i n t (qk _);rw[v1,show ∀ v,outB (.ok v) = .tup [aB v,aI 0] from fun _=>rfl]at c0;have ab:(conj n).length<=400:=by
  have a:=Jn _ n (qk _) t;have b:cntT n<=400:=(Zp.1 F.hn).2.2.1;omega
 have cC:=Jl _ n (qk _) t zOm;have cy:∀ y,y∈conj n->qh qd 16 [eTS ts,eMd m,aI o,lPm [],eNd y] (.tup [aB (vF ⟨ts,m⟩ o y),aI 0]):=fun y T=>by
  have h:=i y (qc2 fm y T) (qe4 t nc y T).2;rw[v2 y T]at h;exact h
 have a6:=qc3 _ n (qk _);generalize ae:vF ⟨ts,m⟩ o=V at *
 generalize conj n=L at *
 have wN:(N:Int)≠0:=zOm;have a7:¬N=0:=zOm;have wl:qm.wrap lp=lp:=zWr;have wz:∀ q:Nd,WKs [eTS ts,eMd m,aI o,.lst true [],eNd q] [eTS ts,eMd m,aI o,lPm [],eNd q]:=fun q => .zk (zA ts) (.zk (J4 m) (.zs (.cons (QB.wH (by trivial)) (.zk (qC q) .nil))))
 rw[wq];refine t7 cm (.zk (zA ts) (.zk (zF sc) (.zk (w6 bs) (.zk (EO.Ut C) (.zs .nil))))) ?_;simp[go_sem,p,a7,wl,tm,R];refine fW c0 (wz n) ?_;refine fW cC (.zk (qC n) .nil) ?_;refine aP L.length (fun k U=>CoI ts m N o (V n) L ((L.take k).all V) k U) ?_ ?_
 .exact ⟨zSi,zSi,zSi,zSi,zSi,zSi,zSi,zSi,zSi,zSi⟩
 rintro k U af I;by_cases g:k<L.length
 .have w1:=zWk k
  have j:=qv g;have a8:=cy _ j;have a9:=a6 _ j;have a0:(L.take (k+1)).all V=((L.take k).all V&&V L[k]):=by rw[yd g,List.all_append];simp
  generalize a1:L[k]=y at *
  generalize (L.take k).all V=B at *
  simp[go_sem,I.e18,I.e20,g];refine tV zKr ?_;have hm:=I.hm;rw[show cMd m=[lI m.sc.sC,aI m.sc.sN,lSt m.sK,aI m.loop] from rfl]at hm;simp[go_sem,I.e6,I.e14,I.e15,I.e18,I.e20,g,hm,a1];refine t7 a8 (wz y) ?_;simp[go_sem,I.e18,I.e19,I.e20,g,a1,a9];cases hB:B<;>simp[go_sem,I.e20,w1,g]
  all_goals
   try refine⟨g,aM ?_⟩
   try refine aM ?_
   exact⟨by simp[go_sem,I.e6],by simp[go_sem,I.e13],by simp[go_sem,I.e14],by simp[go_sem,I.e15],by simp[go_sem,I.e16],by simp[go_sem,I.e17],by simp[go_sem,I.e18],by rw[a0,hB];simp[go_sem],zSi,by simp only[qK];exact I.hm⟩
 .have aa:k=L.length:=by omega
  subst aa;have a2:=I.e19;rw[q8,<-v3]at a2;simp[go_sem,I.e13,I.e16,I.e17,I.e18,I.e20,a2];exact .zsc _
theorem qsB(ts)(j:∀ x,x∈ts.sS->x.1.size<=4611686018427387904)(sc bs n i lp)(g:0<=lp/\lp<=255) :
  qh qd 4 [eTS ts,eSc sc,lBd bs,eNd n,lB i,.sc (.int .u8 lp)] (aB true):=conjT ts j sc bs n i lp g OM.headU
end W75
namespace DL
open Go.EvW Go.RowKit Go.ChangeShapes Go.WideShapes
theorem own:ownKnob qd.godebug=none:=by kernel_rfl
theorem laid:laidOutB qd=true:=by kernel_rfl
abbrev tabL : List (String × DataW Unit) := [("math/bits.deBruijn32tab", Rows.laid_math_bits_deBruijn32tab), ("math/bits.deBruijn64tab", Rows.laid_math_bits_deBruijn64tab), ("internal/strconv.uint64pow10", Rows.laid_internal_strconv_uint64pow10)]
def pows:List Int:=[1,10,100,1000,10000,100000,1000000,10000000,100000000,1000000000,10000000000,100000000000,1000000000000,10000000000000,100000000000000,1000000000000000,10000000000000000,100000000000000000,1000000000000000000,10000000000000000000]
theorem gPow : qd.globalNamed "internal/strconv.uint64pow10" = some 0 := by kernel_rfl
theorem tPow:(qd.globals[0]?).map (·.type)=some 367:=by kernel_rfl
theorem uPow:qd.underlying 367=some (.array 20 302):=by kernel_rfl
theorem uU64:qd.underlying 302=some (.int .u64):=by kernel_rfl
theorem qsC{W}(h:laidMetH qd tabL W):Zw (·<W.heap.size) W.heap:=by
  rw[MakeChecks.laidMetH_plain _ _ _ zKr]at h;obtain⟨ps,I,_⟩:=h
  obtain ⟨g, t, l, o, p, J, R, T, U⟩ := qcE I ("internal/strconv.uint64pow10", Rows.laid_internal_strconv_uint64pow10) zSp
  obtain rfl:=Option.some.inj (gPow.symm.trans J);obtain rfl:=Option.some.inj (tPow.symm.trans R);have hc:l.toList=pows.map fun i => .int .u64 i:=qnM uPow uU64 zKr zKr (ns:=pows) U
  obtain⟨e,fr,C⟩:=qnN gPow T;intro x j;have j:x∈[(0,pows.map fun i=>Value.int .u64 i)]:=j;rw[qQ]at j;subst j;refine⟨(Array.getElem?_eq_some_iff.1 C).1,e,fr,?_⟩;show W.heap[0]?=_;rw[C];have:l=(pows.map fun i=>Value.int .u64 i).toArray:=by rw[<-hc]
  rw[this]
theorem qsD(os args):laidMetH qd tabL ((World.doorLaid qd 4000 os).forCall (fun _ _=>0) ⟨#[],args,[]⟩).memory:=
 laidMetH_of_parts3 (fuel:=8) (laidMet_of_run' 8 zKr zKr) zKr zKr
end DL
namespace DM
open Go.EvW E3 DT
instance:Inhabited Rl:=⟨⟨0,[]⟩⟩
instance:Inhabited Sc:=⟨⟨[],0⟩⟩
instance:Inhabited Md:=⟨⟨default,[],0⟩⟩
theorem qe6(N):ShU qd N 42 cRel (fun _=>True):=
 ((ShU.struct (fs:=[(3,0),(28,1)]) zKr (.cons' (o':=1) zKr (ZW N) (.cons' (o':=2) zKr (KQ N) (.nil 2))) zKr).map
  (fun x=>(⟨x.1,x.2.1⟩:Rl)) (fun _=>rfl) (fun x h=>trivial)).le zOm
theorem qsE(N):ShU qd N 30 (fun s:Sc=>[lI s.sC,aI s.sN]) (fun _=>True):=
 ((ShU.struct (fs:=[(28,0),(3,1)]) zKr (.cons' (o':=1) zKr (KQ N) (.cons' (o':=2) zKr (ZW N) (.nil 2))) zKr).map
  (fun x=>(⟨x.1,x.2.1⟩:Sc)) (fun _=>rfl) (fun x h=>trivial)).le zOm
end DM
namespace HX
open Go.EvW DM GB
instance:Inhabited Bd:=⟨⟨default,default⟩⟩
instance:Inhabited Ed:=⟨⟨0,0,0,0⟩⟩
theorem qe7:qd.underlying 31=some (.slice 44):=by kernel_rfl
theorem qsF(N):ShU qd N 44 cBd (fun _=>True):=
 ((ShU.struct (fs:=[(42,0),(42,2)]) zKr (.cons' (o':=2) zKr (qe6 N) (.cons' (o':=4) zKr (qe6 N) (.nil 4))) zKr).map
  (fun x=>(⟨x.1,x.2.1⟩:Bd)) (fun _=>rfl) (fun x h=>trivial)).le zOm
theorem qsG(N):ShU qd N 31 (fun b:List Bd=>[lBd b]) (fun _=>True):=
 ((ShU.slice qe7 (qsF N) (fun _ _=>zKr) (Nat.lt_of_lt_of_eq (show 0<4 by omega) zKr) zKr).le zOm).map (fun l=>l) (fun _=>rfl) fun _ _=>trivial
theorem qsH:jo qd 31 lBd (fun _=>True):=jo.slice qe7 qsG
end HX
namespace DP
open Go.EvW DM
theorem qsI:jo qd 30 (fun s:Sc=>eSc s) (fun _=>True):=jo.struct zKr qsE
end DP
namespace DR
open Go.EvW EO DT
theorem unBl:qd.underlying 36=some (.slice 4):=by kernel_rfl
theorem shBl(N):ShU qd N 36 (fun l:List Bool=>[lB l]) (fun _=>True):=
 ((ShU.slice unBl (KP N) (fun _ _=>zKr) (Nat.lt_of_lt_of_eq Nat.zero_lt_one zKr) zKr).le zOm).map (fun l=>l) (fun _=>rfl) fun _ _=>trivial
theorem aBl:jo qd 36 (fun l:List Bool=>lB l) (fun _=>True):=jo.slice unBl shBl
end DR
end Go.Proofs.YthflbhjlkgdafaaGreatDoor
