/-
  Own library, part 6: an abstract reading of values and a calculus over it; contracts of functions; plain lemmas.
-/
import Derived.Lib.ItoaLen
import Derived.Handed
import Derived.WideKeyArgs
import Derived.ProofKit
import Derived.OpenShut
import Derived.JoinedCond
import Derived.KernelRfl
import Derived.Test.YthflbhjlkgdafaaGreatDoorMe
set_option linter.unusedVariables false
set_option linter.unusedSimpArgs false
set_option maxRecDepth 100000
open Go renaming FuncId->j1,Program->qc,TypeId->qe,World->qf,Value->yc,undef->uk
open Go.Proofs.Tryz renaming prog->qd
open List renaming getElem?_eq_some_iff->qj,mem_map->qn,range->qr,getElem_mem->qv,getElem?_eq_getElem->qw,mem_cons->qx,getElem?_set_self->qH,getElem?_append_left->qI,mem_append->qJ,replicate->qM,not_mem_nil->qN,mem_singleton->qQ,mem_cons_of_mem->qU,all_eq_true->qY,take_length->q8,map_cons->zd,drop_eq_getElem_cons->ze,length_append->zf,map_append->zh,mem_cons_self->zj,getD_eq_getElem?_getD->zr,getElem?_map->zw,append_assoc->zE,take_of_length_le->zJ,mem_range->zK,getElem?_append_right->zN,append_nil->zV,length_map->zX,drop_length->zY,length_cons->yp,cons_append->yD,mem_append_left->y8,getD_cons_zero->jh,nil_append->jp,mem_filter->jM,nodup_cons->j5,mem_of_mem_take->vM,getElem?_eq_none->uy,foldl_append->uz,flatMap_cons->uX,eq_nil_of_length_eq_zero->uZ,flatten_cons->u3,mem_flatMap->wO,getElem_map->Zs,getElem_of_mem->Zt
open Nat renaming le_refl->qk,le_trans->zH,le_of_ble_eq_true->j0
open Go.IntKind renaming i64->qm
open Option.some renaming injEq->qp
open Bool renaming and_eq_true->qB
open Array renaming getD_eq_getD_getElem?->qT
open Except.ok renaming injEq->yJ
open List.Nodup renaming length_le_of_subset->ji
open Int renaming tmod_eq_emod_of_nonneg->ui,le_refl->Z2
open List.cons renaming injEq->uD
open Prod.mk renaming injEq->u4
namespace Go.Proofs.YthflbhjlkgdafaaGreatDoor
open Go Go.Ev Go.Proofs Tryz
namespace LA
open E9 EW G5 GW
theorem J7(a l):sumI (a :: l)=a+sumI l:=rfl
theorem YO:∀ m,(∀ a,a∈m->0<=a)->0<=sumI m
 | [],_=>Z2 _
 |a :: m,h=>by have:=YO m fun b g=>h b (zP1 g);have:=h a zSp;rw[J7];omega
theorem Kr:∀ m j i,(∀ a,a∈m->0<=a)->sumI (m.take j)+m[j]<=sumI m
 |a :: m,0,_,h=>by have:=YO m fun b g=>h b (zP1 g);show (0:Int)+a<=_;rw[J7];omega
 |a :: m,j+1,i,h=>by have:=Kr m j (zUs i) fun b g=>h b (zP1 g);rw[List.take_succ_cons,J7,J7,List.getElem_cons_succ];omega
theorem qa8:∀ l j k i t,(∀ a,a∈l->0<=a)->0<=k->k<l[j]->uc l (sumI (l.take j)+k) i=i+j
 |a :: l,0,k,i,_,_,C,g=>by
  have:sumI ([]:List Int)=0:=rfl;simp only[List.getElem_cons_zero]at g;rw[uc,List.take_zero,this,if_pos zOm];simp
 |a :: l,j+1,k,i,t,o,C,g=>by
  have I:=o a zSp;have J:=YO (l.take j) fun b p=>o b (by simp[vM p])
  rw[uc,List.take_succ_cons,J7,zIn];have:=qa8 l j k (i+1) (zUs t) (fun b p=>o b (zP1 p)) C (zUs g);rw[show a+sumI (l.take j)+k-a=sumI (l.take j)+k by omega,this]
  push_cast;omega
def OkL(sc:Sc)(l:List Int):Prop:=∀ s,s∈l->0<=s/\s<sc.sC.length
theorem UM(sc)(g:∀ a,a∈sc.sC->0<=a):∀ l,OkL sc l->∀ p x,x∈tupR sc l p->∃ ds,ds.length=l.length/\x=yT (sumI sc.sC) ds p/\(∀ d,d∈ds->0<=d/\d<sumI sc.sC)/\∀(i h)(t:i<l.length),ud sc ds[i]=l[i]
 | [],_,p,x,h=>by
  simp[tupR]at h;exact⟨[],rfl,by simp[yT,h],zSp,zSp⟩
 |s :: l,C,p,x,h=>by
  rw[tupR,wO]at h;obtain⟨k,I,h⟩:=h;rw[zK]at I;obtain⟨h0,h1⟩:=C s zSp;have j:s.toNat<sc.sC.length:=zOm;rw[ju j]at I;obtain⟨ds,P,R,T,U⟩:=UM sc g l (fun s hs=>C s (zP1 hs)) _ x h;have J:=Kr _ _ j g;have a0:=YO (sc.sC.take s.toNat) fun b hb=>g b (vM hb)
  refine⟨(sumI (sc.sC.take s.toNat)+k) :: ds,zP1 P,by rw[R];rfl,fun d o=>?_,fun i h t=>?_⟩
  .rcases qx.1 o with rfl|o
   .omega
   .exact T d o
  .cases i with
   |zero =>
    have:=qa8 sc.sC s.toNat k 0 j g zOm zOm;simp only[List.getElem_cons_zero,ud];rw[this];omega
   |succ i=>simpa using U i (zUs h) (zUs t)
theorem qmM(n ds d p):yT n (ds++[d]) p=yT n ds p*n+d:=by simp[yT]
theorem qa9(n)(g:0<n):∀ k ds,ds.length=k->(∀ d,d∈ds->0<=d/\d<n)->(0<=yT n ds 0/\yT n ds 0<n ^ k)/\digs n k (yT n ds 0)=ds
 | 0,ds,h,_=>by
  obtain rfl:=uZ h;simp[yT,digs]
 |k+1,ds,h,j=>by
  obtain⟨J,d,rfl⟩:∃ J d,ds=J++[d]:=⟨ds.dropLast,ds.getLast (by intro e;simp[e]at h),(List.dropLast_concat_getLast _).symm⟩;obtain⟨⟨l,C⟩,o⟩:=qa9 n g k J (zUs h) fun d i=>j d (zP1 i)
  obtain⟨d1,d2⟩:=j d zSp;rw[qmM];have p:(yT n J 0*n+d) / n=yT n J 0:=by
   rw[Int.add_comm,Int.add_mul_ediv_right _ _ zOm,Int.ediv_eq_zero_of_lt d1 d2];omega
  have t:(yT n J 0*n+d) % n=d:=by
   rw[Int.add_comm,Int.add_mul_emod_self_right,Int.emod_eq_of_lt d1 d2]
  refine⟨⟨?_,?_⟩,?_⟩
  .have:=Int.mul_nonneg l (Int.le_of_lt g);omega
  .have:=Int.mul_le_mul_of_nonneg_right (show yT n J 0+1<=n ^ k by omega) (Int.le_of_lt g)
   rw[Int.pow_succ];rw[Int.add_mul]at this;omega
  .rw [digs,p,t,o]
theorem Ks(n)(g:0<n):∀ ds p,(∀ d,d∈ds->0<=d/\d<n)->p*n ^ ds.length<=yT n ds p/\yT n ds p<(p+1)*n ^ ds.length
 | [],p,_=>by simp[yT];omega
 |d :: ds,p,h=>by
  obtain⟨d1,d2⟩:=h d zSp;obtain⟨a,b⟩:=Ks n g ds (p*n+d) fun e j=>h e (zP1 j)
  have i:0<n ^ ds.length:=Int.pow_pos g;have e:n ^ (d :: ds).length=n ^ ds.length*n:=Int.pow_succ ..;have l:yT n (d :: ds) p=yT n ds (p*n+d):=rfl;rw[l,e];have c1:p*(n ^ ds.length*n)<=(p*n+d)*n ^ ds.length:=by
   rw[Int.add_mul,show p*(n ^ ds.length*n)=p*n*n ^ ds.length by rw[Int.mul_comm (n ^ ds.length),Int.mul_assoc]];have:=Int.mul_nonneg d1 (Int.le_of_lt i);omega
  have c2:(p*n+d+1)*n ^ ds.length<=(p+1)*(n ^ ds.length*n):=by
   rw[show (p+1)*(n ^ ds.length*n)=((p+1)*n)*n ^ ds.length by rw[Int.mul_comm (n ^ ds.length),Int.mul_assoc]];refine Int.mul_le_mul_of_nonneg_right ?_ (Int.le_of_lt i);rw[Int.add_mul];omega
  omega
theorem qbA(sc)(i:0<sumI sc.sC)(o:∀ a,a∈sc.sC->0<=a):∀ l,OkL sc l->∀ p,(tupR sc l p).Pairwise (·<·)
 | [],_,p=>by simp[tupR]
 |s :: l,C,p=>by
  have g:OkL sc l:=fun s I=>C s (zP1 I)
  rw[tupR];have:∀ m:Nat,((qr m).flatMap fun k:Nat=>tupR sc l (p*sumI sc.sC+(sumI (sc.sC.take s.toNat)+k))).Pairwise (·<·):=fun m=>by
   induction m with
   |zero=>simp
   |succ m P =>
    rw[List.range_succ,List.flatMap_append,List.pairwise_append];refine⟨P,by simpa using qbA sc i o l g _,fun x j y t=>?_⟩;rw[wO]at j;obtain⟨k,R,j⟩:=j;rw[zK]at R;simp only[uX,List.flatMap_nil,zV]at t;obtain⟨T,U,a2,a3,_⟩:=UM sc o l g _ x j;obtain⟨J,b1,b2,b3,_⟩:=UM sc o l g _ y t;have h1:=(Ks _ i T (p*sumI sc.sC+(sumI (sc.sC.take s.toNat)+k)) a3).2;have h2:=(Ks _ i J (p*sumI sc.sC+(sumI (sc.sC.take s.toNat)+m)) b3).1;rw[<-a2,U]at h1;rw[<-b2,b1]at h2;have:=Int.mul_le_mul_of_nonneg_right (show p*sumI sc.sC+(sumI (sc.sC.take s.toNat)+k)+1<=p*sumI sc.sC+(sumI (sc.sC.take s.toNat)+m) by omega) (Int.le_of_lt (Int.pow_pos i:0<sumI sc.sC ^ l.length));omega
  exact this _
theorem qmN(sc)(g:GSc sc)(o:0<sumI sc.sC)(l)(I:l.length<=3)(p:OkL sc l):tupR sc l 0=y7 sc l:=by
 have t:∀ a,a∈sc.sC->0<=a:=fun a J=>(g.2 a J).1
 have s1:=qbA sc o t l p 0;have P:(y7 sc l).Pairwise (·<·):=qa2 _ _ _;have j:∀ x,x∈tupR sc l 0->x∈y7 sc l:=fun x R=>by
  obtain⟨T,U,a2,a3,a4⟩:=UM sc t l p 0 x R;obtain⟨⟨b1,b2⟩,C⟩:=qa9 _ o l.length T U a3;rw[<-a2]at b1 b2 C;unfold y7 jY;refine qn.2 ⟨x.toNat,jM.2 ⟨zK.2 zOm,?_⟩,zOm⟩;rw[show ((x.toNat:Nat):Int)=x by omega,C];exact Ua.2 fun i hi=>by
   have:=a4 i zOm zOm
   grind [ju]
 exact GA.mn s1 P fun x=>⟨j x,qmJ sc g o l I p x⟩
end LA
namespace KC
open Y2 P1 E1 E2 KA KB LA
section
variable {ts:TS}
structure ScN (ts:TS) (sc:Sc):Prop where
 g:GSc sc
 ns:ts.sS.length=sc.sC.length
 a1:∀ a,a∈sc.sC->1<=a
theorem ScN.n0{sc}(h:ScN ts sc):0<=sumI sc.sC:=YO _ fun a g=>by have:=h.a1 a g;omega
theorem ScN.le{sc}(h:ScN ts sc){i}(j:i<sc.sC.length):1<=sc.sC[i]/\0<=sumI (sc.sC.take i)/\sumI (sc.sC.take i)+sc.sC[i]<=sumI sc.sC:=
 ⟨h.a1 _ (qv j),YO _ fun a g=>zW1 (h.a1 a (vM g)),Kr _ _ j fun a g=>zW1 (h.a1 a g)⟩
def BdN(ts:TS)(n:Int)(bs:List Bd):Prop:=bs.length=ts.sA.length/\∀(i:Nat)(h:i<bs.length)(g:i<ts.sA.length),okI n ts.sA[i].sS.length bs[i]
theorem qbB{nm}:∀{fs bs},bs.length=fs.length->(jX nm fs bs=none/\zQ fs nm=[])\/∃(i:Nat) (h:i<bs.length) (j:i<fs.length),jX nm fs bs=some bs[i]/\fs[i].name=nm/\∃ r,zQ fs nm=kOf fs[i].sS :: r
 | [],[],_ => .inl ⟨rfl,rfl⟩
 |f :: fs,b :: bs,h=>by
  by_cases g:f.name=nm
  .exact .inr ⟨0,zSp,zSp,by simp[jX,g],g,zQ fs nm,by simp[zQ,g]⟩
  .have l:jX nm (f :: fs) (b :: bs)=jX nm fs bs:=by simp[jX,g]
   have o:zQ (f :: fs) nm=zQ fs nm:=by simp[zQ,g]
   rw[l,o];rcases qbB (nm:=nm) (fs:=fs) (bs:=bs) (zUs h) with ⟨a,b⟩|⟨i,p,j,a,b,r,c⟩
   .exact .inl ⟨a,b⟩
   .exact .inr ⟨i+1,zSo,zSo,zUs a,zUs b,r,zUs c⟩
theorem qmO{sc}(h:ScN ts sc){i}(g:i<sc.sC.length):GR (sumI sc.sC) ⟨1,YK sc i⟩:=by
 obtain⟨l,j,o⟩:=h.le g;unfold YK;rw[ju g];exact GR.run _ j zOm
theorem qmP{sc}(h:ScN ts sc){i}(g:i<sc.sC.length):GR (sumI sc.sC) ⟨2,ZV sc i⟩:=by
 obtain⟨o,j,p⟩:=h.le g;unfold ZV;rw[ju g];by_cases l:(sc.sC[i].toNat-1)=0
 .rw [l];exact GR.nil zOm zOm
 .exact GR.sN h.n0 _ j zOm
theorem qbC{sc}(h:ScN ts sc)(nm):∀ so i,i+so.length<=ts.sS.length->∀ k r,yf i so nm=k :: r->okI (sumI sc.sC) k.ar (Zi sc nm i so)
 | [],i,_,k,r,g=>by simp[yf]at g
 |s :: so,i,l,k,r,g=>by
  simp only[yp]at l;have j:i<sc.sC.length:=zW1 h.ns;obtain⟨p,o,t⟩:=h.le j;rw[yf,vC]at g;rw[Zi];by_cases c1:s.1=nm
  .rw [if_pos c1]at g⊢
   simp only[yD,jp,uD]at g;rw[<-g.1];exact YL (qmO h j)
  rw[if_neg c1]at g⊢;by_cases c2:s.2=true/\s.1++yM=nm
  .rw [if_pos c2]at g⊢
   simp only[yD,jp,uD]at g;rw[<-g.1];exact YL (GR.one o zOm)
  rw[if_neg c2]at g⊢;by_cases c3:s.2=true/\s.1++jl=nm
  .rw [if_pos c3]at g⊢
   simp only[yD,jp,uD]at g;rw[<-g.1];exact YL (qmP h j)
  rw[if_neg c3]at g⊢;exact qbC h nm so (i+1) zOm k r g
theorem qmQ{sc}(h:ScN ts sc){bs}(j:BdN ts (sumI sc.sC) bs){c:Ck}(t:c.ts=ts){env nm}(l:Zh nm env=none){k r}(g:zM ts nm=k :: r):okI (sumI sc.sC) k.ar (yi ⟨ts,sc,bs⟩ env nm):=by
 unfold yi;rw[l];simp only;unfold zM at g;rcases qbB (nm:=nm) j.1 with ⟨a,b⟩|⟨i,o,p,a,b,C,e⟩
 .rw [a]
  rw[b,jp]at g;exact qbC h nm ts.sS 0 zOm k r g
 .rw [a]
  rw[e,yD]at g;simp only[uD]at g;rw[<-g.1];exact j.2 i o p
theorem qmR{sc}(h:ScN ts sc){bs}(j:BdN ts (sumI sc.sC) bs){c}(l:c.ts=ts):∀ nm a,arS c [] nm=some a->okI (sumI sc.sC) a (yi ⟨ts,sc,bs⟩ [] nm):=fun nm a g=>by
 unfold arS yG at g;have hf:yL nm ([]:Scp)=[]:=rfl;rw[hf]at g;simp only at g;subst l;cases i:zM c.ts nm with
 |nil=>rw[i]at g;simp at g
 |cons k r =>
  rw[i]at g;cases r with
  |nil =>
   simp at g;rw[<-g];exact qmQ h j rfl rfl i
  |cons=>simp at g
end
end KC
namespace KD
open E1 KA
def le(a b:Rl):Prop:=∀ t,t∈a.ts->t∈b.ts
theorem le.rfl'(a):le a a:=fun _ h=>h
theorem le.trans{a b c}(h:le a b)(k:le b c):le a c:=fun t g=>k t (h t g)
theorem qmS{a b}:sub1 a b=true↔le a b:=by
 simp[sub1,diR,le,List.filter_eq_nil_iff]
theorem qmT(a b t):t∈(inR a b).ts↔t∈a.ts/\t∈b.ts:=by simp[inR]
structure Tg (x y:Bd):Prop where
 lo:le y.lo x.lo
 up:le x.up y.up
 la:x.lo.ar=y.lo.ar
 ua:x.up.ar=y.up.ar
theorem Tg.rfl'(x):Tg x x:=⟨le.rfl' _,le.rfl' _,rfl,rfl⟩
theorem Tg.trans{x y z}(h:Tg x y)(k:Tg y z):Tg x z:=⟨k.lo.trans h.lo,h.up.trans k.up,h.la.trans k.la,h.ua.trans k.ua⟩
def TgL(a b:List Bd):Prop:=a.length=b.length/\∀(i:Nat)(h:i<a.length)(g:i<b.length),Tg a[i] b[i]
theorem TgL.rfl'(a):TgL a a:=⟨rfl,fun _ _ _=>Tg.rfl' _⟩
theorem TgL.trans{a b c}(h:TgL a b)(k:TgL b c):TgL a c:=⟨h.1.trans k.1,fun i g j=>(h.2 i g (zW1 h.1)).trans (k.2 i _ j)⟩
end KD
namespace KE
open Y1 P1 E1 E2 EC KA KB KC KD
section
variable {c c':Bool}{a:Int}{bs g:List Bd}{ts:TS}
structure BdS (ts:TS) (n:Int) (bs:List Bd):Prop where
 b:BdN ts n bs
 s:∀ x,x∈bs->le x.lo x.up
theorem Kt{n a b}(g:GR n a)(h:le a b):a.ts.length<=b.ts.length:=ji (ZL g.srt) h
def gapB(b:Bd):Nat:=b.up.ts.length-b.lo.ts.length
def gapL(bs:List Bd):Nat:=(bs.map gapB).sum
theorem qbD{a b}(g:zn a)(i:zn b)(h:∀ t,t∈a->t∈b)(e:b.length<=a.length):a=b:=by
 refine Uo g i fun x=>⟨h x,fun j=>?_⟩
 exact qkQ g i h (Nat.le_antisymm e (ji (ZL g) h)) x j
theorem qmU{n x y}(j:okI n a x)(l:okI n a y)(h:Tg x y)(t:le x.lo x.up):gapB x<=gapB y/\(gapB x=gapB y->x=y):=by
 have C:=Kt l.lo h.lo;have I:=Kt j.up h.up;have J:=Kt j.lo t;unfold gapB;refine⟨zOm,fun e=>?_⟩;have o:=qbD l.lo.srt j.lo.srt h.lo zOm;have p:=qbD j.up.srt l.up.srt h.up zOm;obtain⟨⟨P,R⟩,⟨T,U⟩⟩:=x;obtain⟨⟨b1,b2⟩,⟨b3,b4⟩⟩:=y;have g:=h.la;have i:=h.ua;simp only at o p g i;subst o;subst p;subst g;subst i;rfl
theorem qbE:∀{fs:List Fld}{n a b},a.length=fs.length->TgL a b->(∀(i h)(g:i<fs.length),okI n fs[i].sS.length a[i])->(∀(i h)(g:i<fs.length),okI n fs[i].sS.length b[i])->(∀ x,x∈a->le x.lo x.up)->gapL a<=gapL b/\(gapL a=gapL b->a=b)
 |fs,n,[],[],_,_,_,_,_=>⟨qk _,fun _=>rfl⟩
 | [],n,x :: a,b,j,_,_,_,_=>by simp at j
 |fs,n,[],y :: b,_,h,_,_,_=>by have:=h.1;simp at this
 |fs,n,x :: a,[],_,h,_,_,_=>by have:=h.1;simp at this
 |f :: fs,n,x :: a,y :: b,j,h,l,o,p=>by
  have t:=qbE (fs:=fs) (n:=n) (a:=a) (b:=b) (zUs j) ⟨by have:=h.1;simpa using this,fun i C g=>h.2 (i+1) zSo zSo⟩
   (fun i C g=>l (i+1) zSo zSo) (fun i C g=>o (i+1) zSo zSo) fun x J=>p x (zP1 J)
  have I:=qmU (l 0 zSp zSp) (o 0 zSp zSp) (h.2 0 zSp zSp) (p x zSp);simp only[List.getElem_cons_zero]at I;simp only[gapL,zd,List.sum_cons]at t⊢;refine⟨zOm,fun e=>?_⟩;rw[I.2 zOm,t.2 zOm]
structure NwS (ts:TS) (sc:Sc):Prop where
 s:ScN ts sc
 h12:sumI sc.sC<=12
abbrev arT(ts:TS):dA->Option Int:=arS (mkCk ts ts.sT.length) []
theorem NwS.nm{sc}(W:NwS ts sc){bs}(h:BdS ts (sumI sc.sC) bs):∀ nm a,arT ts nm=some a->okI (sumI sc.sC) a (yi ⟨ts,sc,bs⟩ [] nm):=qmR W.s h.b (c:=mkCk ts ts.sT.length) rfl
theorem NwS.ok{sc}(W:NwS ts sc){bs}(h:BdS ts (sumI sc.sC) bs){n a}(g:ArN (arT ts) n a):okI (sumI sc.sC) a (ivl ⟨ts,sc,bs⟩ [] n):=qaW (σ:=⟨ts,sc,bs⟩) W.s.n0 (W.nm h) g
theorem qbF{nm}:∀{fs bs},bs.length=fs.length->jX nm fs bs=(idxF fs nm).bind fun i=>bs[i]?
 | [],[],_=>rfl
 |f :: fs,b :: bs,h=>by
  have g:=qbF (nm:=nm) (fs:=fs) (bs:=bs) (zUs h);unfold idxF at g⊢;by_cases j:f.name=nm
  .simp [jX,j,List.findIdx?_cons]
  .simp only[jX,j,if_false,List.findIdx?_cons,decide_false,Bool.false_eq_true,g]
   cases List.findIdx? (fun f:Fld=>decide (f.name=nm)) fs<;>simp
theorem qbG{sc}(W:NwS ts sc){bs}(h:BdS ts (sumI sc.sC) bs){nm a}(t:arT ts nm=some a){i}(g:idxF ts.sA nm=some i):∃ j,okI (sumI sc.sC) a bs[i]/\∃ p,(ts.sA[i].sS.length:Int)=a:=by
 have l:i<ts.sA.length:=by
  unfold idxF at g;rw[List.findIdx?_eq_some_iff_getElem]at g;exact g.1
 have o:i<bs.length:=by rw[h.b.1];exact l
 have e:yi ⟨ts,sc,bs⟩ [] nm=bs[i]:=by
  unfold yi;have:Zh nm ([]:List (dA×Bd))=none:=rfl;rw[this];simp only;rw[qbF h.b.1,g];simp[qw o]
 have j:=W.nm h nm a t;rw[e]at j;have p:=h.b.2 i o l;exact⟨o,j,l,by rw[<-p.la,j.la]⟩
structure vJ (ts:TS) (n:Int) (bs bs':List Bd) (k k':Bool):Prop where
 t:TgL bs' bs
 v:BdS ts n bs'
 c:k'=false->bs'=bs/\k=false
 d:k'=true->k=true\/gapL bs'<gapL bs
 gl:gapL bs'<=gapL bs
theorem vJ.id{n}(h:BdS ts n bs):vJ ts n bs bs c c:=⟨TgL.rfl' _,h,fun e=>⟨rfl,e⟩,fun e => .inl e,qk _⟩
theorem vJ.trans{n a b d c1 c2 c3}(h:vJ ts n a b c1 c2)(k:vJ ts n b d c2 c3):vJ ts n a d c1 c3:=⟨k.t.trans h.t,k.v,fun e=>by
 obtain⟨g,i⟩:=k.c e;obtain⟨j,l⟩:=h.c i;exact⟨g.trans j,l⟩,fun e=>by
 have o:=h.gl;have p:=k.gl;rcases k.d e with q|q
 .rcases h.d q with q|q
  .exact .inl q
  .exact .inr zOm
 .exact .inr zOm,zH k.gl h.gl⟩
theorem qmV{i p q}(t)(h:Zj i p q bs c=some (g,c')):le (unR bs[i].lo p) (inR bs[i].up q)/\g=bs.set i ⟨unR bs[i].lo p,inR bs[i].up q⟩/\(c'=false->g=bs/\c=false)/\(c'=true->c=true\/¬g=bs):=by
 have e:bs.getD i bd0=bs[i]:=by simp[zr,qw t]
 unfold Zj at h;simp only[e]at h;split at h
 .rename_i j
  have j:=qmS.1 j;split at h
  .rename_i o
   cases h;refine⟨j,?_,fun e=>⟨rfl,e⟩,fun e => .inl e⟩;rw[o.1,o.2];exact(List.set_getElem_self t).symm
  .rename_i o
   cases h;refine⟨j,rfl,(fun e=>by cases e),fun _ => .inr fun e=>o ?_⟩;have:=congrArg (fun l=>l[i]?) e;simp[t]at this;exact⟨congrArg Bd.lo this,congrArg Bd.up this⟩
 .cases h
theorem qmW{n}(h:BdS ts n bs){i}(R:i<bs.length)(h2)(e:(ts.sA[i].sS.length:Int)=a){p q}(hp:GR n p)(pa:p.ar=a)(hs:Zj i p q bs c=some (g,c')):vJ ts n bs g c c':=by
 obtain⟨s1,T,s3,s4⟩:=qmV R hs;have o:=h.b.2 i R h2;have o':okI n ts.sA[i].sS.length (⟨unR bs[i].lo p,inR bs[i].up q⟩:Bd):=⟨aG o.lo hp (by rw[o.la,pa,e]),o.up.filter _,o.la,o.ua⟩;have l:TgL g bs:=by
  subst T;refine⟨zSp,fun j U j2=>?_⟩;rw[List.getElem_set];split
  .rename_i I;subst I
   exact⟨fun t l=>(qkP _ _ t).2 (.inl l),fun t l=>((qmT _ _ t).1 l).1,rfl,rfl⟩
  .exact Tg.rfl' _
 have C:BdS ts n g:=by
  subst T;refine⟨⟨by simp[h.b.1],fun j U j2=>?_⟩,fun x J=>?_⟩
  .rw [List.getElem_set]
   split
   .rename_i I;subst I;exact o'
   .exact h.b.2 j (zUs U) j2
  .rcases List.mem_or_eq_of_mem_set J with J|rfl
   .exact h.s x J
   .exact s1
 have P:=qbE C.b.1 l C.b.2 h.b.2 C.s;refine⟨l,C,s3,fun e=>(s4 e).imp id fun ne=>?_,P.1⟩;have:=P.2;rcases Nat.lt_or_eq_of_le P.1 with q|q
 .exact q
 .exact absurd (this q) ne
theorem YP{n}(g:0<=n)(i:1<=a)(j:a<=3):GR n (allN n a)/\(allN n a).ar=a:=⟨GR.all g i j,rfl⟩
theorem tS{n a b}(h:GR n a):GR n (diR a b):=h.filter _
variable {ts:TS} {sc:Sc}
theorem UN(g x y p p' q bs c):narU ts sc g [x,y] p p' q bs c=brB (narN ts sc g x p q bs c) fun bs c=>narN ts sc g y p' q bs c:=by
 rw[narU];cases narN ts sc g x p q bs c with
 |none=>rfl
 |some r =>
  obtain⟨i,j⟩:=r;simp only[brB,narU];cases narN ts sc g y p' q i j with
  |none=>rfl
  |some r=>rfl
theorem qbH(g x y p q p' i bs c):narD ts sc g [x,y] p q p' i bs c=brB (narN ts sc g x p q bs c) fun bs c=>narN ts sc g y p' i bs c:=by
 rw[narD];cases narN ts sc g x p q bs c with
 |none=>rfl
 |some r =>
  obtain⟨j,l⟩:=r;simp only[brB,narD];cases narN ts sc g y p' i j l with
  |none=>rfl
  |some r=>rfl
theorem YQ{r f}(h:brB r f=some (g,c')):∃ bs c,r=some (bs,c)/\f bs c=some (g,c'):=by
 match r,h with
 |some (bs,c),h=>exact⟨bs,c,rfl,h⟩
theorem J8(g n p q bs c):narN ts sc g n p q bs c =
  if (sub1 p (ivl ⟨ts,sc,bs⟩ [] n).up&&sub1 (ivl ⟨ts,sc,bs⟩ [] n).lo q)=true then
   if n.op=1 then (match idxF ts.sA n.name with
    |some i=>if (g||!((ts.sA.map fun f=>f.var).getD i false))=true then Zj i p q bs c else some (bs,c)
    |none=>some (bs,c))
   else if n.op=6 then narU ts sc g n.sD ⟨p.ar,(diR p ((n.sD.map (ivl ⟨ts,sc,bs⟩ [])).getD 1 bd0).up).ts⟩ ⟨p.ar,(diR p ((n.sD.map (ivl ⟨ts,sc,bs⟩ [])).getD 0 bd0).up).ts⟩ q bs c
   else if n.op=7 then narU ts sc g n.sD p p (allN (sumI sc.sC) (ivl ⟨ts,sc,bs⟩ [] n).lo.ar) bs c
   else if n.op=8 then narD ts sc g n.sD p (allN (sumI sc.sC) (ivl ⟨ts,sc,bs⟩ [] n).lo.ar) ⟨(ivl ⟨ts,sc,bs⟩ [] n).lo.ar,[]⟩ (diR (allN (sumI sc.sC) (ivl ⟨ts,sc,bs⟩ [] n).lo.ar) p) bs c
   else if n.op=11 then narT ts sc g n.sD (trR (sumI sc.sC) p) (trR (sumI sc.sC) q) bs c
   else some (bs,c)
  else none:=by
 obtain⟨op,nm,i,ks,j⟩:=n;rw[narN,Ki];rfl
theorem ifn{p}[Decidable p]{C:Type}{x}{r:C}(h:(if p then x else none)=some r):p/\x=some r:=by
 split at h
 .rename_i g;exact⟨g,h⟩
 .cases h
theorem qmX(g){n}(j:n.op≠1)(l:n.op≠6)(o:n.op≠7)(t:n.op≠8)(i:n.op≠11){p q bs c}:narN ts sc g n p q bs c=if (sub1 p (ivl ⟨ts,sc,bs⟩ [] n).up&&sub1 (ivl ⟨ts,sc,bs⟩ [] n).lo q)=true then some (bs,c) else none:=by
 rw[J8,if_neg j,if_neg l,if_neg o,if_neg t,if_neg i]
theorem uw(W:NwS ts sc){n a}(hn:ArN (arT ts) n a):∀ g p q bs j c c',BdS ts (sumI sc.sC) bs->GR (sumI sc.sC) p->p.ar=a->GR (sumI sc.sC) q->q.ar=a->narN ts sc g n p q bs c=some (j,c')->vJ ts (sumI sc.sC) bs j c c':=by
 have h0:=W.s.n0;have t:∀{n:Nd},n.op≠1->n.op≠6->n.op≠7->n.op≠8->n.op≠11->∀(g:Bool)(p q:Rl)(bs j:List Bd)(c c':Bool),BdS ts (sumI sc.sC) bs->narN ts sc g n p q bs c=some (j,c')->vJ ts (sumI sc.sC) bs j c c':=fun {n} h1 h6 h7 h8 a0 g p q bs j c c' l h=>by
  rw[qmX g h1 h6 h7 h8 a0]at h;obtain⟨_,h⟩:=ifn h;cases h;exact .id l
 induction hn with
 | @name n a C ha =>
  intro g p q bs j c c' l J P hq qa h;rw[J8]at h;obtain⟨_,h⟩:=ifn h;rw[if_pos C]at h;cases hi:idxF ts.sA n.name with
  |none=>rw[hi]at h;cases h;exact .id l
  |some i =>
   rw[hi]at h;simp only at h;split at h
   .obtain ⟨h1,_,h2,e⟩:=qbG W l ha hi
    exact qmW l h1 h2 e J P h
   .cases h;exact .id l
 |none C _=>exact fun g p q bs j c c' l _ _ _ _ h=>t zOm zOm zOm zOm zOm g p q bs j c c' l h
 |univ C=>exact fun g p q bs j c c' l _ _ _ _ h=>t zOm zOm zOm zOm zOm g p q bs j c c' l h
 |iden C=>exact fun g p q bs j c c' l _ _ _ _ h=>t zOm zOm zOm zOm zOm g p q bs j c c' l h
 |prime C _ _ _=>exact fun g p q bs j c c' l _ _ _ _ h=>t zOm zOm zOm zOm zOm g p q bs j c c' l h
 |join C _ _ _ _ _ _=>exact fun g p q bs j c c' l _ _ _ _ h=>t zOm zOm zOm zOm zOm g p q bs j c c' l h
 |prod C _ _ _ _ _ _=>exact fun g p q bs j c c' l _ _ _ _ h=>t zOm zOm zOm zOm zOm g p q bs j c c' l h
 |compr C _ _ _=>exact fun g p q bs j c c' l _ _ _ _ h=>t zOm zOm zOm zOm zOm g p q bs j c c' l h
 | @bin n x C hk hx ih =>
  intro g p q bs j c c' l J P hq qa h;by_cases o:n.op=11
  .rw [J8]at h
   obtain⟨_,h⟩:=ifn h;rw[zIn,zIn,zIn,zIn,if_pos o,hk,narT]at h;exact ih g _ _ bs j c c' l (GR.trans h0 J P) rfl (GR.trans h0 hq qa) rfl h
  .exact t zOm zOm zOm zOm o g p q bs j c c' l h
 | @alike n x y a C hk hx hy T U =>
  intro g p q bs j c c' l J P hq qa h;have hI:=W.ok l (ArN.alike C hk hx hy);have I:=YP (a:=a) h0 (by rw[<-hI.la];exact hI.lo.ar1) (by rw[<-hI.la];exact hI.lo.ar3);have hZ:GR (sumI sc.sC) (⟨a,[]⟩:Rl):=GR.nil I.1.ar1 I.1.ar3;rcases (show n.op=14\/n.op=6\/n.op=7\/n.op=8 by omega) with o|o
  .exact t zOm zOm zOm zOm zOm g p q bs j c c' l h
  rw[J8]at h;obtain⟨_,h⟩:=ifn h;rw[hI.la,hk]at h;rcases o with o|o|o
  .rw [zIn,if_pos o,UN]at h
   obtain⟨R,c1,e1,e2⟩:=YQ h;have s1:=T g _ q bs R c c1 l (tS J) P hq qa e1;exact s1.trans (U g _ q R j c1 c' s1.v (tS J) P hq qa e2)
  .rw [zIn,zIn,if_pos o,UN]at h
   obtain⟨R,c1,e1,e2⟩:=YQ h;have s1:=T g _ _ bs R c c1 l J P I.1 I.2 e1;exact s1.trans (U g _ _ R j c1 c' s1.v J P I.1 I.2 e2)
  .rw [zIn,zIn,zIn,if_pos o,qbH]at h
   obtain⟨R,c1,e1,e2⟩:=YQ h;have s1:=T g _ _ bs R c c1 l J P I.1 I.2 e1;exact s1.trans (U g _ _ R j c1 c' s1.v hZ rfl (tS I.1) I.2 e2)
end
end KE
namespace KF
open Y1 P1 E1 E2 KA KB KE
def TyK(A:dA->Option Int)(m:Nd):Prop:=
 (m.op=34\/m.op=35\/m.op=36\/m.op=37->∃ k a,m.sD=[k]/\ArN A k a)/\(m.op=32\/m.op=33->∃ k g a,m.sD=[k,g]/\ArN A k a/\ArN A g a)
def TyC(A:dA->Option Int)(n:Nd):Prop:=TyK A n/\(n.op=40->∃ m,n.sD=[m]/\TyK A m)
variable {ts:TS} {sc:Sc}
theorem z_ok{n a}(g:1<=a)(i:a<=3):GR n (⟨a,[]⟩:Rl)/\(⟨a,[]⟩:Rl).ar=a:=⟨GR.nil g i,rfl⟩
theorem Ku(W:NwS ts sc){n a}(l:ArN (arT ts) n a)(g bs i c c')(j:BdS ts (sumI sc.sC) bs)(h:wF ts sc g n bs c=some (i,c')):vJ ts (sumI sc.sC) bs i c c':=by
 have I:=W.ok j l;unfold wF at h;simp only at h;split at h
 .cases h
 split at h
 .rw [I.ua]at h
  have o:=YP (a:=a) W.s.n0 (by rw[<-I.la];exact I.lo.ar1) (by rw[<-I.la];exact I.lo.ar3);exact uw W l g _ _ bs i c c' j I.up I.ua o.1 o.2 h
 .cases h;exact .id j
theorem qbI(W:NwS ts sc){n a}(l:ArN (arT ts) n a)(g bs i c c')(j:BdS ts (sumI sc.sC) bs)(h:wG ts sc g n bs c=some (i,c')):vJ ts (sumI sc.sC) bs i c c':=by
 have I:=W.ok j l;unfold wG at h;simp only at h;split at h
 .cases h
 split at h
 .rw [I.la]at h
  have o:=z_ok (n:=sumI sc.sC) (a:=a) (by rw[<-I.la];exact I.lo.ar1) (by rw[<-I.la];exact I.lo.ar3);exact uw W l g _ _ bs i c c' j o.1 o.2 I.lo I.la h
 .cases h;exact .id j
theorem qmY(W:NwS ts sc){n a}(l:ArN (arT ts) n a)(g bs i c c')(o:BdS ts (sumI sc.sC) bs)(h:noN ts sc g n bs c=some (i,c')):vJ ts (sumI sc.sC) bs i c c':=by
 have I:=W.ok o l;unfold noN at h;simp only at h;rw[I.la]at h;have j:=z_ok (n:=sumI sc.sC) (a:=a) (by rw[<-I.la];exact I.lo.ar1) (by rw[<-I.la];exact I.lo.ar3);exact uw W l g _ _ bs i c c' o j.1 j.2 j.1 j.2 h
inductive Cst where
 |skip
 |bad
 |no (k:Nd)
 |some (k:Nd)
 |lone (k:Nd)
 |one (k:Nd)
 |sub (e:Bool) (k k':Nd)
def cstN(n:Nd):Cst:=
 let no:=decide (n.op=40)
 let m:=if n.op=40 then kidN n 0 else n
 let k:=kidN m 0
 if (no=true/\m.op=34)\/(no=false/\m.op=35) then .no k
 else if (no=true/\m.op=35)\/(no=false/\m.op=34) then .some k
 else if no=true then .skip
 else if m.op=31 then .bad
 else if m.op=36 then .one k
 else if m.op=37 then .lone k
 else if m.op=32\/m.op=33 then .sub (decide (m.op=33)) k (kidN m 1)
 else .skip
def runC(ts:TS)(sc:Sc)(g:Bool)(q:Cst)(bs:List Bd)(c:Bool):Br:=match q with
 | .skip=>Option.some (bs,c)
 | .bad=>Option.none
 | .no k=>noN ts sc g k bs c
 | .some k=>wF ts sc g k bs c
 | .lone k=>wG ts sc g k bs c
 | .one k=>brB (wF ts sc g k bs c) fun bs c=>wG ts sc g k bs c
 | .sub e k i =>
  let x:=ivl ⟨ts,sc,bs⟩ [] k
  let y:=ivl ⟨ts,sc,bs⟩ [] i
  let all:=allN (sumI sc.sC) x.lo.ar
  brB (narN ts sc g k (if e then y.lo else ⟨all.ar,[]⟩) y.up bs c) fun bs c=>narN ts sc g i x.lo (if e then x.up else all) bs c
theorem qbJ(g n bs c):uQ ts sc g n bs c=runC ts sc g (cstN n) bs c:=by
 unfold uQ cstN;simp only
 repeat' split
 all_goals first
  |rfl
  | (simp only[runC];grind)
  |omega
  |grind [runC]
def TyQ(A:dA->Option Int):Cst->Prop
 | .skip=>True
 | .bad=>True
 | .no k=>∃ a,ArN A k a
 | .some k=>∃ a,ArN A k a
 | .lone k=>∃ a,ArN A k a
 | .one k=>∃ a,ArN A k a
 | .sub _ k g=>∃ a,ArN A k a/\ArN A g a
theorem qbK{A n}(h:TyC A n):TyQ A (cstN n):=by
 obtain⟨⟨p,t⟩,C⟩:=h;unfold cstN;simp only;by_cases j:n.op=40
 .obtain ⟨m,I,l,P⟩:=C j
  have e:kidN n 0=m:=by simp[kidN,I]
  simp only[j,if_true,e,decide_true,true_and,Bool.true_eq_false,false_and,or_false];split
  .rename_i o
   obtain⟨k,a,g,i⟩:=l zOm;exact⟨a,by simpa[kidN,g] using i⟩
  split
  .rename_i o
   obtain⟨k,a,g,i⟩:=l zOm;exact⟨a,by simpa[kidN,g] using i⟩
  trivial
 .simp only[j,if_false,decide_false,Bool.false_eq_true,false_and,false_or,true_and]
  have one:(n.op=34\/n.op=35\/n.op=36\/n.op=37)->∃ a,ArN A (kidN n 0) a:=fun o=>by
   obtain⟨k,a,g,i⟩:=p o;exact⟨a,by simpa[kidN,g] using i⟩
  split
  .exact one zOm
  split
  .exact one zOm
  split
  .trivial
  split
  .exact one zOm
  split
  .exact one zOm
  split
  .rename_i o
   obtain⟨k,R,a,g,i,J⟩:=t o;exact⟨a,by simpa[kidN,g] using i,by simpa[kidN,g] using J⟩
  trivial
theorem qbL(W:NwS ts sc){q}(p:TyQ (arT ts) q)(g bs i c c')(l:BdS ts (sumI sc.sC) bs)(h:runC ts sc g q bs c=some (i,c')):vJ ts (sumI sc.sC) bs i c c':=by
 cases q with
 |skip=>cases h;exact .id l
 |bad=>cases h
 |no k=>obtain⟨a,j⟩:=p;exact qmY W j g bs i c c' l h
 |some k=>obtain⟨a,j⟩:=p;exact Ku W j g bs i c c' l h
 |lone k=>obtain⟨a,j⟩:=p;exact qbI W j g bs i c c' l h
 |one k =>
  obtain⟨a,j⟩:=p;obtain⟨d,e,t,C⟩:=YQ h;have s:=Ku W j g bs d c e l t;exact s.trans (qbI W j g d i e c' s.v C)
 |sub eq k T =>
  obtain⟨a,j,o⟩:=p;obtain⟨d,e,t,C⟩:=YQ h;have I:=W.ok l j;have J:=W.ok l o;have P:=YP (a:=a) W.s.n0 (by rw[<-I.la];exact I.lo.ar1) (by rw[<-I.la];exact I.lo.ar3);have R:=z_ok (n:=sumI sc.sC) (a:=a) P.1.ar1 P.1.ar3;rw[I.la]at t C;cases eq with
  |true =>
   have s:=uw W j g _ _ bs d c e l J.lo J.la J.up J.ua t;exact s.trans (uw W o g _ _ d i e c' s.v I.lo I.la I.up I.ua C)
  |false =>
   have s:=uw W j g _ _ bs d c e l R.1 R.2 J.up J.ua t;exact s.trans (uw W o g _ _ d i e c' s.v I.lo I.la P.1 P.2 C)
def TyL(A:dA->Option Int)(l:List Nd):Prop:=∀ n,n∈l->∀ g,TyC A (y6 n g).1
theorem qbM(W:NwS ts sc):∀ l,TyL (arT ts) l->∀ bs g c c',BdS ts (sumI sc.sC) bs->Zk ts sc l bs c=some (g,c')->vJ ts (sumI sc.sC) bs g c c'
 | [],_,bs,g,c,c',i,h=>by cases h;exact .id i
 |n :: l,j,bs,g,c,c',i,h=>by
  rw[Zk]at h;obtain⟨d,e,o,p⟩:=YQ h;rw[qbJ]at o;have s:=qbL W (qbK (j n zSp _)) _ bs d c e i o;exact s.trans (qbM W l (fun x t=>j x (zP1 t)) d g e c' s.v p)
end KF
namespace YZ
open YM P1 Y1 Y9 YX
mutual
def depN:Nd->Int
 | .mk _ _ _ ks _=>yu ks+1
def yu:List Nd->Int
 | []=>0
 |k :: ks=>max (depN k) (yu ks)
end
mutual
theorem qmZ:∀ n:Nd,0<=depN n
 | .mk _ _ _ ks _=>by simp only[depN];have:=UO ks;omega
theorem UO:∀ ks:List Nd,0<=yu ks
 | []=>by simp[yu]
 |k :: ks=>by simp only[yu];have:=UO ks;omega
end
theorem Zm(n):depN n=yu n.sD+1:=by
 obtain⟨op,nm,i,ks,p⟩:=n;simp[depN,Nd.sD]
theorem qbN{ks k}(h:k∈ks):depN k<=yu ks:=by
 induction ks with
 |nil=>simp at h
 |cons a l g =>
  simp only[yu];rcases qx.1 h with rfl|h
  .omega
  .have:=g h;omega
theorem qm0:∀ m n,szN n<=m->Small n->depN n<=1000000->qh qd 142 [eNd n] (aI (depN n))
 | 0,n,J,_,_=>by obtain⟨op,nm,i,ks,p⟩:=n;simp[szN]at J
 |m+1,n,J,P,R=>by
  have ih:∀ k,k∈n.sD->qh qd 142 [eNd k] (aI (depN k)):=fun k j =>
   qm0 m k (zW1 (qZ j)) (P.kid j) (by rw[Zm]at R;have:=qbN j;omega)
  rw[Zm]at R⊢;have T:=P.len;have a0:=UO n.sD;generalize hD:yu n.sD=D at *
  refine qSU call142 func142 rfl ?_;refine aP n.sD.length (fun k U=>∃ d,U.tm 3=aI d/\U.tm 7=lNd n.sD/\U.tm 8=aI n.sD.length/\U.tm 9=aI k/\0<=d/\max d (yu (n.sD.drop k))=D) ?_ ?_
  .exact ⟨0,zSi,zSi,zSi,zSi,zOm,by simp only[List.drop_zero,hD];omega⟩
  .rintro k U j ⟨d,e3,e7,o,t,a1,l⟩
   by_cases C:k=n.sD.length
   .subst C
    rw[zY]at l;simp only[yu]at l;have I:d=D:=zOm;subst I;have w:qm.wrap (d+1)=d+1:=zWr;simp[go_sem,e3,o,t,w];exact .zsc _
   .have g:k<n.sD.length:=by omega
    have w1:=zWk k;rw[ze g]at l;simp only[yu]at l;simp[go_sem,e3,e7,o,t,g];refine t7 (ih n.sD[k] (qv g)) (.zk (qC _) .nil) ?_;simp[go_sem,t,w1];refine⟨g,aM ?_⟩;refine⟨if d<depN n.sD[k] then depN n.sD[k] else d,zSi,by simp[go_sem,e7],zS1 o,zSi,?_,?_⟩
    .have:=qmZ n.sD[k]
     split<;>omega
    .split<;>omega
mutual
def preN:Nd->List Nd
 | .mk op nm n ks p => .mk op nm n ks p :: zq ks
def zq:List Nd->List Nd
 | []=>[]
 |k :: ks=>preN k++zq ks
end
theorem Zn(n):preN n=n :: zq n.sD:=by
 obtain⟨op,nm,i,ks,p⟩:=n;simp[preN,Nd.sD]
theorem YR(a b):zq (a++b)=zq a++zq b:=by
 induction a with
 |nil=>rfl
 |cons x a g=>simp[zq,g]
theorem qbO{f caps}(I:List Nd->Mu->Prop)(hp:∀ v mu l,I v mu->I v (mu++l))(hf:∀ v k mu,I v mu->qz qd f (eNd k :: caps) mu fun e m=>e = .ret (.tup [])/\I (v++[k]) m) :
  ∀ m n,szN n<=m->Small n->∀ v mu,I v mu->qz qd 137 [eNd n,.fn (.func f) [] caps] mu fun e m=>e = .ret (.tup [])/\I (v++preN n) m
 | 0,n,hm,_,_,_,_=>by obtain⟨op,nm,i,ks,p⟩:=n;simp[szN]at hm
 |m+1,n,hm,hs,v,mu,J=>by
  have ih:∀ k,k∈n.sD->∀ v mu,I v mu->qz qd 137 [eNd k,.fn (.func f) [] caps] mu fun e m=>e = .ret (.tup [])/\I (v++preN k) m:=fun k P v mu J =>
   qbO I hp hf m k (zW1 (qZ P)) (hs.kid P) v mu J
  have a1:=hs.len;rw[Zn];refine qSW call137 func137 rfl {} ?_;simp[go_sem];refine fH (hf v n mu J) ?_ (by rintro r m ⟨e,_⟩;cases e);rintro r m ⟨e,R⟩;cases e;simp[go_sem];refine aP n.sD.length (fun k U=>U.tm 1 = .fn (.func f) [] caps/\U.tm 10=lNd n.sD/\U.tm 11=aI n.sD.length/\U.tm 12=aI k/\I (v++[n]++zq (n.sD.take k)) U.mu) ?_ ?_
  .exact ⟨zSi,zSi,zSi,zSi,by simpa[go_sem,zq] using R⟩
  .rintro k U P ⟨e1,C,j,o,t⟩
   by_cases T:k=n.sD.length
   .subst T
    rw[q8]at t;simp[go_sem,j,o];simpa using t
   .have g:k<n.sD.length:=by omega
    have w1:=zWk k;simp[go_sem,e1,C,j,o,g];refine aA (ih n.sD[k] (qv g) _ _ (hp _ _ _ t)) ?_ (by rintro r m ⟨e,_⟩;cases e);rintro r m ⟨e,a0⟩;cases e;simp[go_sem,o,w1];refine⟨g,aM ?_⟩;refine⟨zS1 e1,zS1 C,zS1 j,zSi,?_⟩;have e:zq (n.sD.take (k+1))=zq (n.sD.take k)++preN n.sD[k]:=by
     rw[List.take_add_one,qw g,YR];simp[zq]
    rw[e,<-zE];simpa[go_sem] using a0
abbrev eSet(es:List (dA×Bool)):List (AV×AV):=encK aS aB es
theorem updS{mu b es}(i:mu[b]?=some (.mp (eSet es)))(nm) :
  vR qd mu 195 (.mp b) (aS nm) (aB true)=some (mu.set b (.mp (eSet (setK nm true es)))):=
 keyS.update (et:=4) (t:=195) zSi (mu:=mu) (b:=b) (venc:=aB) (es:=es) i (k:=nm) (v:=true) trivial (fun _ _=>trivial)
theorem qm1(ts s tb c es n){mu p g t}(C:mu[p]?=some (.arr [.ptr t 0]))(I:mu[t]?=some (.arr (cIn ts tb s)))(l:mu[g]?=some (.arr [aB c]))(j:mu[tb]?=some (.mp (eSet es))) :
  qz qd 138 [eNd n,.ptr p 0,.ptr g 0] mu fun e m=>e = .ret (.tup [])/\m=(mu.set tb (.mp (eSet (setK n.name true es)))).set g (.arr [aB (c||decide (n.op=47))]):=by
 refine qSW call138 func138 rfl {} ?_;have J:g<mu.length:=(qj.1 l).1;have P:tb<mu.length:=(qj.1 j).1;simp[go_sem];refine tV zKr ?_;have R:=updS j n.name;simp[go_sem,C,I];refine tZ _ R ?_;have o:tb≠g:=fun e=>by rw[e,l]at j;cases j
 generalize T:Cell.mp (eSet (setK n.name true es))=N at *
 have i:(mu.set tb N)[g]?=some (.arr [aB c]):=by rw[List.getElem?_set_ne o];exact l
 cases c
 .simp [go_sem,i]
  try rfl
 .simp [go_sem,i]
  try rfl
end YZ
namespace YA
open YS P1
def vN(k:Int):dA:=⟨#[118]⟩++vg k
theorem qbP(k)(g : -9223372036854775808<=k)(i:k<=9223372036854775807):(vg k).size<=21:=by
 have:=Lib.itoa_length_le k g i;unfold vg;simpa[ByteArray.size] using this
def ug(ts:TS)(es:List (dA×Bool))(nm:dA):Bool:=decide (getK nm es≠some true)&&decide (zM ts nm=[])
def yv(ts:TS)(es:List (dA×Bool)):Nat->Int->Int
 | 0,k=>k+1
 |f+1,k=>if ug ts es (vN (k+1))=true then k+1 else yv ts es f (k+1)
end YA
namespace YB
open P1 YX YA
def qE(ts:TS)(es:List (dA×Bool)):Nat:=es.length+ts.sA.length+3*ts.sS.length+1
def renI(ts:TS)(es:List (dA×Bool))(env:IEnv)(nm:dA)(body:Bool)(s:ISt):(IEnv×dA)×ISt:=
 if body=true\/zM ts nm≠[] then
  ((setK nm ⟨none,0,vN (yv ts es (qE ts es) s.last)⟩ (delK nm env),vN (yv ts es (qE ts es) s.last)),⟨yv ts es (qE ts es) s.last,s.sM⟩)
 else ((delK nm env,nm),s)
theorem qbQ{g C}[DecidableEq g]{k v}:∀{es},(es.map Prod.fst).Nodup->∀{x:g×C},x∈setK k v es↔x=(k,v)\/(x∈es/\x.1≠k)
 | [],_,x=>by simp[setK]
 |e :: es,h,x=>by
  rw[zd,j5]at h;unfold setK;by_cases i:k=e.1
  .rw [if_pos i,qx,qx]
   constructor
   .grind
   grind
  .rw [if_neg i,qx,qx,qbQ h.2]
   constructor
   .grind
   grind
end YB
namespace Q9
end Q9
namespace PA
open P1 P2 Y1 Y2 Y15 Y16 Q6
section
variable {inn:Bool}{c c':Ck}{s s':Scp}
theorem qbR{p}:∀{ks},jW p ks=true↔∃ k,k∈ks/\anyN p k=true
 | []=>by simp[jW]
 |k :: ks=>by
  simp only[jW,Bool.or_eq_true,qbR (ks:=ks),qx];constructor
  .rintro (h|⟨x,g,h⟩)
   .exact ⟨k,.inl rfl,h⟩
   .exact ⟨x,.inr g,h⟩
  .rintro ⟨x,rfl|g,h⟩
   .exact .inl h
   .exact .inr ⟨x,g,h⟩
def lookS(nm:dA)(s:Scp):Option Kd:=(yL nm s).head?.map Prod.snd
theorem qm2(c s nm pos):yG c s nm pos=match lookS nm s with
  |some k => .ok (some k)
  |none=>match zM c.ts nm with
   | [] => .error (40,pos)
   | [k] => .ok (some k)
   |_ => .error (44,pos):=by
 grind [yG,lookS,yL]
theorem qm3{n n'}(j:n'.op=n.op)(l:n'.name=n.name)(t:n'.n=n.n)(C:n'.pos=n.pos)
  (I:yZ c' n.op n.name=yZ c n.op n.name) (P:n.op=1->yG c s n.name n.pos=yG c' s' n.name n.pos) (o:c'.ts.sT=c.ts.sT) (g:zy c' n.name=zy c n.name)
  (p:c'.ts.sS.length=c.ts.sS.length) (i:n'.sD.length=n.sD.length)
  (R:n.op=47->∀ ps,zZ c s n.pos ps n.sD=zZ c' s' n.pos ps n'.sD)
  (hB:(n.op=15\/n.op=45\/n.op=46)->∀ inn,yR c s inn n.name n.pos n.sD=yR c' s' inn n.name n.pos n'.sD)
  (J:¬n.op=1->¬n.op=47->¬(n.op=15\/n.op=45\/n.op=46)->∀ inn,zl c s inn n.sD=zl c' s' inn n'.sD):exam c s inn n=exam c' s' inn n':=by
 rw[jU,jU,j,l,t,C,I,o,g,p,i];by_cases a:(inn&&yZ c n.op n.name)=true
 .rw [if_pos a,if_pos a]
 rw[if_neg a,if_neg a];by_cases b:n.op=1
 .grind
 rw[if_neg b,if_neg b];by_cases d:n.op=47
 .simp_all
 rw[if_neg d,if_neg d];by_cases e:n.op=15\/n.op=45\/n.op=46
 .rw [if_pos e,if_pos e];exact hB e _
 rw[if_neg e,if_neg e,J b d e]
theorem qbS(f):∀{ks},(∀ k,k∈ks->exam c s inn k=exam c' s' inn (f k))->zl c s inn ks=zl c' s' inn (ks.map f)
 | [],_=>rfl
 |k :: ks,h=>by
  simp only[zd,zl];rw[h k (zj ..),qbS f fun g i=>h g (qU _ i)]
theorem qbT{pos}(f):∀{ks ps},(∀ k,k∈ks->exam c s true k=exam c' s' true (f k))->zZ c s pos ps ks=zZ c' s' pos ps (ks.map f)
 | [],ps,_=>by cases ps<;>rfl
 |k :: ks,[],_=>rfl
 |k :: ks,p :: ps,h=>by
  simp only[zd,zZ];rw[h k (zj ..),qbT f (ps:=ps) fun g i=>h g (qU _ i)]
theorem qbU{ks}(h:∀ k,k∈ks->exam c s inn k=exam c' s' inn k):zl c s inn ks=zl c' s' inn ks:=by
 have:=qbS (c:=c) (c':=c') (s:=s) (s':=s') (inn:=inn) id (ks:=ks) h
 rwa[List.map_id]at this
theorem qm4{pos ks ps}(h:∀ k,k∈ks->exam c s true k=exam c' s' true k):zZ c s pos ps ks=zZ c' s' pos ps ks:=by
 have:=qbT (c:=c) (c':=c') (s:=s) (s':=s') (pos:=pos) id (ks:=ks) (ps:=ps) h
 rwa[List.map_id]at this
def wf(ts:TS)(g:List (dA×Nd)):TS:=⟨ts.sS,ts.sA,ts.sT,g⟩
theorem qm5{C}(g)(l:List C)(i):(repL g l)[i]?=(l[i]?).map fun x=>(l.take i).any fun y=>g x y:=by
 grind [qaA,qw,uy,Qf]
theorem qbV{C}(g)(l:List C)(i):repB g l i=match l[i]? with|some x=>[(l.take i).any fun y=>g x y] | none=>[]:=by
 unfold repB;rw[List.take_add_one,qm5,List.drop_append];by_cases h:i<l.length
 .rw [qw h,List.length_take,Qf,Nat.min_eq_left zOm,List.drop_of_length_le zSo]
  simp
 grind
def binB(op:Int):Bool:=decide (op=15)||decide (op=45)||decide (op=46)
end
end PA
namespace YC
open P1 Y1 YX YZ YA YB PA
section
variable {env:IEnv}{s:ISt}{es:List (dA×Bool)}{F:Nat}{ts:TS}
abbrev XR(C:Type):=Except Dg (C×ISt)
def vo(E:Nd->ISt->XR (Nd×Int)):List (dA×Int)->List Nd->IEnv->ISt->XR IEnv
 |p :: g,k :: ks,own,s=>match E k s with
  | .error e => .error e
  | .ok ((i,m),j)=>vo E g ks (setK p.1 ⟨some i,m,⟨#[]⟩⟩ own) j
 |_,_,own,s => .ok (own,s)
def vp(E:IEnv->Nd->ISt->XR (Nd×Int))(R:IEnv->dA->ISt->(IEnv×dA)×ISt)(bin:Bool):Nat->IEnv->dA->List Nd->ISt->XR (dA×List Nd×Int)
 |_,_,nm,[],s => .ok ((nm,[],0),s)
 |i,env,nm,k :: ks,s =>
  let r:=if bin=true/\i=1 then R env nm s else ((env,nm),s)
  match E r.1.1 k r.2 with
  | .error e => .error e
  | .ok ((o,m),p)=>match vp E R bin (i+1) r.1.1 r.1.2 ks p with
   | .error e => .error e
   | .ok ((g,j,t),l) => .ok ((g,o :: j,m+t),l)
def YT{C i:Type}(q:XR C)(g:C->ISt->XR i):XR i:=
 match q with
 | .error e => .error e
 | .ok (a,s)=>g a s
theorem YY{C i q}{g:C->ISt->XR i}{r}(h:YT q g = .ok r):∃ a s,q = .ok (a,s)/\g a s = .ok r:=by
 unfold YT at h;split at h
 .cases h
 .exact ⟨_,_,rfl,h⟩
def expI(ts:TS)(es:List (dA×Bool)):Nat->IEnv->Nd->Bool->ISt->XR (Nd×Int)
 | 0,_,_,_,_ => .error (2,0)
 |f+1,env,n,g,s =>
  if s.sM+1<=4000 then
   if n.op=1 then ZU env n (payS 1 s)
   else if n.op=47 then match ts.sT.find? fun p=>decide (p.name=n.name) with
    |none => .error (2,0)
    |some p=>YT (vo (fun k s=>expI ts es f env k g s) p.params n.sD [] (payS 1 s)) fun own i=>expI ts es f own p.body true i
   else YT (vp (fun env k s=>expI ts es f env k g s) (fun env nm s=>renI ts es env nm g s) (binB n.op) 0 env n.name n.sD (payS 1 s)) fun r i => .ok ((.mk n.op r.1 n.n r.2.1 n.pos,1+r.2.2),i)
  else .error (2,0)
def vq(ts:TS)(n:Nd):Prop:=∀ x,x∈preN n->x.op=47->∃ p,(ts.sT.find? fun p=>decide (p.name=x.name))=some p/\p.params.length=x.sD.length
theorem qm6{ks k x}(g:k∈ks)(i:x∈preN k):x∈zq ks:=by
 induction ks with
 |nil=>simp at g
 |cons a l j =>
  simp only[zq,qJ];rcases qx.1 g with rfl|g
  .exact .inl i
  grind
theorem qbW{n k x}(g:k∈n.sD)(i:x∈preN k):x∈preN n:=by
 grind [Zn,qU,qm6]
theorem Kv(n):n∈preN n:=by rw[Zn];exact zj ..
theorem vq.kid{n k}(h:vq ts n)(g:k∈n.sD):vq ts k:=fun x i=>h x (qbW g i)
def pot(F:Nat)(s:ISt):Int:=s.sM*F-s.last
structure StOk (F:Nat) (s:ISt):Prop where
 l0:0<=s.last
 c0:0<=s.sM
 c1:s.sM<=4000
 p:0<=pot F s
theorem StOk.last(h:StOk F s):s.last<=4000*F:=by
 have g:s.sM*F<=4000*F:=Int.mul_le_mul_of_nonneg_right h.c1 zOm;have:=h.p
 grind [pot]
structure zU (env:IEnv):Prop where
 nd:(env.map Prod.fst).Nodup
 sz:∀ e,e∈env->0<=e.2.size/\e.2.size<=4000
theorem zU.nil:zU []:=⟨zSp,fun e g=>by simp at g⟩
theorem zU.set(h:zU env){k v}(i:0<=v.size/\v.size<=4000):zU (setK k v env):=
 ⟨Ue h.nd,fun e g=>by
  rcases (qbQ h.nd).1 g with rfl|⟨g,_⟩
  .exact i
  .exact h.sz e g⟩
theorem zU.del(h:zU env){k}:zU (delK k env):=⟨qiF h.nd,fun e g=>h.sz e ((nq h.nd).1 g).1⟩
theorem Kw{nm body}(h:zU env):zU (renI ts es env nm body s).1.1:=by
 unfold renI;split
 .exact h.del.set ⟨zSp,zSp⟩
 .exact h.del
theorem qbX(ts es):∀ f k,k<yv ts es f k/\yv ts es f k<=k+f+1
 | 0,k=>by grind [yv]
 |f+1,k=>by
  simp only[yv];have:=qbX ts es f (k+1);omega
theorem qbY{ts es}:∀{f k},(∃ j:Nat,1<=j/\j<=f/\ug ts es (vN (k+j))=true)->yv ts es f k<=k+f
 | 0,k,⟨j,g,i,_⟩=>zOm
 |f+1,k,⟨j,g,i,l⟩=>by
  simp only[yv];split
  .omega
  .rename_i o
   have p:j≠1:=fun e=>by grind
   have:=qbY (ts:=ts) (es:=es) (f:=f) (k:=k+1) ⟨j-1,zOm,zOm,by grind⟩;omega
def Free(ts:TS)(es:List (dA×Bool)):Prop:=∀ l:Int,0<=l->∃ j:Nat,1<=j/\j<=qE ts es/\ug ts es (vN (l+j))=true
theorem Kx(g:Free ts es){env nm body s}(i:0<=s.last):0<=(renI ts es env nm body s).2.last/\(renI ts es env nm body s).2.last<=s.last+(qE ts es:Nat)/\(renI ts es env nm body s).2.sM=s.sM:=by
 unfold renI;split
 .have l:=qbX ts es (qE ts es) s.last
  have j:=qbY (g s.last i);refine⟨?_,j,rfl⟩
  grind
 .exact ⟨i,by grind,rfl⟩
structure Gos (F:Nat) (s s':ISt) (z:Int):Prop where
 l0:0<=s'.last
 c1:s'.sM<=4000
 z0:0<=z
 cz:s.sM+z<=s'.sM
 p:pot F s<=pot F s'
theorem Gos.ok{s' z}(g:Gos F s s' z)(h:StOk F s):StOk F s':=⟨g.l0,by have:=g.cz;have:=g.z0;have:=h.c0;omega,g.c1,zW2 g.p h.p⟩
theorem J9(F s n):pot F (payS n s)=pot F s+n*F:=by
 grind [pot,payS,Int.add_mul]
theorem Y0(h:StOk F s){n}(g:0<=n)(i:s.sM+n<=4000):Gos F s (payS n s) n:=
 ⟨h.l0,i,g,Z2 _,by rw[J9];have:0<=n*(F:Int):=Int.mul_nonneg g zOm;omega⟩
theorem qm7{n n' s' z}(h:StOk F s)(l:zU env)(C:s.sM+1<=4000)(e:ZU env n (payS 1 s) = .ok ((n',z),s')):Gos F s s' z:=by
 have j:=Y0 h (n:=1) zOm C;unfold ZU at e;cases o:getK n.name env with
 |none=>grind
 |some v =>
  rw[o]at e;have I:=l.sz _ ((ZI l.nd).1 o);obtain⟨J,t,R⟩:=v;cases J with
  |none=>cases e;exact j
  |some a =>
   simp only at e;split at e
   .rename_i P
    have i:0<=t/\t<=4000:=I;cases e;have g:=Y0 (j.ok h) i.1 P;exact⟨g.l0,g.c1,i.1,zW2 g.cz j.cz,zW2 g.p j.p⟩
   .cases e
theorem qbZ{E}:∀{ks ps own i s s'},(∀ k n' z s s',k∈ks->StOk F s->E k s = .ok ((n',z),s')->Gos F s s' z)->StOk F s->zU own ->
  vo E ps ks own s = .ok (i,s')->zU i/\Gos F s s' 0
 | [],ps,own,i,s,s',_,h,j,e=>by
  have e:Except.ok (own,s)=(Except.ok (i,s'):XR IEnv):=by cases ps<;>exact e
  cases e;exact⟨j,h.l0,h.c1,zOm,zOm,Z2 _⟩
 |k :: ks,[],own,i,s,s',_,h,j,e=>by
  cases e;exact⟨j,h.l0,h.c1,zOm,zOm,Z2 _⟩
 |k :: ks,p :: ps,own,i,s,s',o,h,j,e=>by
  simp only[vo]at e;split at e
  .cases e
  .rename_i t m s1 C
   have g:=o k t m s s1 (zj ..) h C;have I:m<=4000:=by have:=g.cz;have:=g.c1;have:=h.c0;omega
   obtain⟨J,l⟩:=qbZ (fun k n' z s s' P=>o k n' z s s' (qU _ P)) (g.ok h) (j.set (v:=⟨some t,m,⟨#[]⟩⟩) ⟨g.z0,I⟩) e;exact⟨J,l.l0,l.c1,zOm,by have:=g.cz;have:=g.z0;have:=l.cz;omega,zW2 g.p l.p⟩
def dueN(F:Nat)(bin:Bool)(i:Nat):Int:=if bin=true/\i<=1 then F else 0
theorem UP(F bin i):0<=dueN F bin i:=by unfold dueN;split<;>omega
theorem qb0{bin i}(h:¬(bin=true/\i=1)):dueN F bin i=dueN F bin (i+1):=by
 unfold dueN;by_cases g:bin=true
 .by_cases l:i=1
  .grind
  .by_cases j:i<=1
   .rw [if_pos ⟨g,j⟩,if_pos ⟨g,zOm⟩]
   omega
 grind
theorem qb1{E R bin}(P:∀ env nm s,0<=s.last->zU env->zU (R env nm s).1.1/\0<=(R env nm s).2.last/\(R env nm s).2.last<=s.last+(F:Int)/\(R env nm s).2.sM=s.sM) :
  ∀{ks i env nm j s s' l m},(∀ env k n' z s s',k∈ks->StOk F s->zU env->E env k s = .ok ((n',z),s')->Gos F s s' z)->0<=s.last->0<=s.sM->s.sM<=4000->dueN F bin i<=pot F s->zU env ->
  vp E R bin i env nm ks s = .ok ((j,l,m),s')->0<=s'.last/\s'.sM<=4000/\0<=m/\s.sM+m<=s'.sM/\pot F s-dueN F bin i<=pot F s'
 | [],i,env,nm,j,s,s',l,m,_,T,c0,c1,hp,U,e=>by
  cases e;have:=UP F bin i;omega
 |k :: ks,i,env,nm,j,s,s',l,m,hE,T,c0,c1,hp,U,e=>by
  simp only[vp]at e;obtain⟨r,t⟩:∃ r,r=if bin=true/\i=1 then R env nm s else ((env,nm),s):=⟨_,rfl⟩
  rw[<-t]at e;have I:zU r.1.1/\0<=r.2.last/\r.2.sM=s.sM/\dueN F bin (i+1)<=pot F r.2/\pot F s-dueN F bin i<=pot F r.2-dueN F bin (i+1):=by
   by_cases C:bin=true/\i=1
   .rw [if_pos C]at t
    obtain⟨a1,a2,a3,a4⟩:=P env nm s T U;have d1:dueN F bin i=F:=if_pos ⟨C.1,zOm⟩;have d2:dueN F bin (i+1)=0:=zIn
    grind [pot]
   .rw [if_neg C]at t
    subst t;have d':dueN F bin i=dueN F bin (i+1)\/(bin=true/\i=1):=by
     unfold dueN;by_cases o:bin=true
     .by_cases h1:i=1
      .grind
      .left
       by_cases h0:i<=1
       .rw [if_pos ⟨o,h0⟩,if_pos ⟨o,zOm⟩]
       omega
     grind
    have a0:dueN F bin i=dueN F bin (i+1):=d'.elim id fun h=>absurd h C
    grind
  obtain⟨b1,b2,b3,b4,b5⟩:=I;split at e
  .cases e
  .rename_i k' m1 s1 h1
   have J:StOk F r.2:=⟨b2,zOm,zOm,zW1 (UP F bin (i+1))⟩;have g:=hE r.1.1 k k' m1 r.2 s1 (zj ..) J b1 h1;split at e
   .cases e
   .rename_i a5 a6 m2 s2 h2
    have:=qb1 P (fun env k n' z s s' hk=>hE env k n' z s s' (qU _ hk)) g.l0 (zW2 g.cz g.z0) g.c1 (zW1 g.p) b1 h2;obtain⟨q1,q2,q3,q4,q5⟩:=this;cases e;have:=g.cz;have:=g.z0;have:=g.p;omega
theorem Zo(ts){es}(g:Free ts es):∀(f){env n n' body s s' z},StOk (qE ts es) s->zU env->expI ts es f env n body s = .ok ((n',z),s')->Gos (qE ts es) s s' z
 | 0,_,_,_,_,_,_,_,_,_,e=>by cases e
 |f+1,env,n,n',body,s,s',z,h,P,e=>by
  simp only[expI]at e;split at e
  .rename_i R
   have i:=Y0 h (n:=1) zOm R;split at e
   .grind [qm7]
   .split at e
    .split at e
     .cases e
     .rename_i p _
      .obtain ⟨own,s1,t,e⟩:=YY e
       obtain⟨T,g1⟩:=qbZ (F:=qE ts es) (fun k n' z s s' _ C I=>Zo ts g f C P I) (i.ok h) .nil t;have j:=Zo ts g f (g1.ok (i.ok h)) T e;exact⟨j.l0,j.c1,j.z0,by have:=j.cz;have:=g1.cz;have:=i.cz;omega,by have:=j.p;have:=g1.p;have:=i.p;omega⟩
    ·.obtain ⟨⟨l,o,m⟩,s1,t,e⟩:=YY e
      cases e;have U:dueN (qE ts es) (binB n.op) 0<=pot (qE ts es) (payS 1 s):=by
       rw[J9];have:=h.p;grind [dueN]
      have:=qb1 (F:=qE ts es) (fun env nm s hl J=>⟨Kw J,Kx g hl⟩) (fun env k n' z s s' _ C J I=>Zo ts g f C J I) i.l0 (by have:=(i.ok h).c0;exact this) i.c1 U P t;obtain⟨q1,q2,q3,q4,q5⟩:=this;have a0:dueN (qE ts es) (binB n.op) 0<=(qE ts es:Nat):=by grind [dueN]
      rw[J9]at q5;have a1:0<=(l,o,m).snd.snd:=q3;have a2:(payS 1 s).sM+(l,o,m).snd.snd<=s'.sM:=q4;exact⟨q1,q2,zOm,zW1 i.cz,zOm⟩
  .cases e
end
end YC
namespace YD
open Y1 Y7 Y10
theorem qb2{lo sz mu mu' av xs}(h:OwnF lo mu sz av xs)(l:lo<=mu'.length)(o:∀ i,lo<=i->i<mu.length->mu'[i]?=mu[i]?):OwnF lo mu' sz av xs:=by
 obtain⟨p,g,_⟩:=h;refine⟨?_,g,l⟩;rcases p with rfl|⟨b,rfl,j⟩
 .exact .inl rfl
 .exact .inr ⟨b,rfl,by rw[o b (g b _ _ _ rfl) (qj.1 j).1];exact j⟩
theorem Ky(l:List Nd):qS 5 (l.map cNd):=fun r g=>by
 obtain⟨n,_,rfl⟩:=qn.1 g
 grind [Yi,JI]
theorem appNd{mu lo s xs k K}(g:OwnF lo mu 5 s (xs.map cNd))(l:xs.length<=100000)(o:∀ av mu',OwnF lo mu' 5 av ((xs++[k]).map cNd)->(∀ i,i<lo->mu'[i]?=mu[i]?)->K av mu') :
  qu qd mu #[32,32] s (.lst true [cNd k]) K:=by
 refine qu.ownF (lo:=lo) (e:=34) (sz:=5) (bt:=64) (zv := .agg [aI 0,aS ⟨#[]⟩,aI 0,.lst true [],aI 0]) (xs:=xs.map cNd) (ys:=[cNd k]) zSi zSi zSi rfl rfl zOm zOm g (by simp[qy]) (Ky xs) (Ky [k]) zSo ?_
 grind
end YD
namespace YE
open P1 P2 Y1 Y9 YX YZ YB YC
mutual
def cntT:Nd->Int
 | .mk _ _ _ ks _=>1+yU ks
def yU:List Nd->Int
 | []=>0
 |k :: ks=>cntT k+yU ks
end
theorem Va(n):cntT n=1+yU n.sD:=by
 obtain⟨op,nm,i,ks,p⟩:=n;simp[cntT,Nd.sD]
mutual
theorem UQ:∀ n:Nd,1<=cntT n
 | .mk _ _ _ ks _=>by simp only[cntT];have:=UR ks;omega
theorem UR:∀ ks:List Nd,0<=yU ks
 | []=>by simp[yU]
 |k :: ks=>by simp only[yU];have:=UQ k;have:=UR ks;omega
end
mutual
theorem qb3:∀ n:Nd,depN n<=cntT n
 | .mk _ _ _ ks _=>by simp only[cntT,depN];have:=qb4 ks;omega
theorem qb4:∀ ks:List Nd,yu ks<=yU ks
 | []=>by simp[yu,yU]
 |k :: ks=>by
  simp only[yU,yu];have:=qb3 k;have:=qb4 ks;have:=UQ k;have:=UR ks;omega
end
section
variable {C:Type}{R:IEnv->dA->ISt->(IEnv×dA)×ISt}{es:List (dA×Bool)}{E:Nd->ISt->XR (Nd×Int)}
def uS(env:IEnv):Prop:=∀ e,e∈env->∀ a,e.2.arg=some a->e.2.size=cntT a/\Small a
theorem Kz{g}[DecidableEq g]{k v}:∀{es:List (g×C)},getK k es=some v->(k,v)∈es
 | [],h=>by simp[getK]at h
 |e :: es,h=>by
  unfold getK at h;split at h
  .rename_i i;cases h;subst i;exact zj ..
  .exact qU _ (Kz h)
theorem US{g}[DecidableEq g]{k v}:∀{es}{x:g×C},x∈setK k v es->x=(k,v)\/x∈es
 | [],x,h=>by grind [setK]
 |e :: es,x,h=>by
  unfold setK at h;split at h
  .rcases qx.1 h with h|h
   .exact .inl h
   .exact .inr (qU _ h)
  .rcases qx.1 h with h|h
   .exact .inr (by rw[h];exact zj ..)
   .exact (US h).imp id (qU _)
theorem qm8{ts env nm body s}(h:uS env):uS (renI ts es env nm body s).1.1:=by
 have i:uS (delK nm env):=fun e g=>h e (Ym.subset g)
 unfold renI;split
 .intro e g a j
  rcases US g with rfl|g
  .cases j
  .exact i e g a j
 .exact i
theorem qb5:∀{ks ps own g s s'},(∀ k n' z s s',k∈ks->E k s = .ok ((n',z),s')->z=cntT n'/\Small n')->uS own->vo E ps ks own s = .ok (g,s')->uS g
 | [],ps,own,g,s,s',_,i,e=>by
  have e:Except.ok (own,s)=(Except.ok (g,s'):XR IEnv):=by cases ps<;>exact e
  cases e;exact i
 |k :: ks,[],own,g,s,s',_,i,e=>by cases e;exact i
 |k :: ks,p :: ps,own,g,s,s',l,i,e=>by
  simp only[vo]at e;split at e
  .cases e
  .rename_i C m s1 I
   refine qb5 (fun k n' z s s' o=>l k n' z s s' (qU _ o)) (fun e j a t=>?_) e;rcases US j with rfl|j
   .grind
   .exact i e j a t
theorem qb6{E bin}(C:∀ env nm s,uS env->uS (R env nm s).1.1) :
  ∀{ks i env nm l s s' j m},(∀ env k n' z s s',k∈ks->uS env->E env k s = .ok ((n',z),s')->z=cntT n'/\Small n')->uS env ->
  vp E R bin i env nm ks s = .ok ((l,j,m),s')->m=yU j/\j.length=ks.length/\∀ k,k∈j->Small k
 | [],i,env,nm,l,s,s',j,m,_,_,e=>by
  cases e;exact⟨rfl,rfl,fun k p=>absurd p qN⟩
 |k :: ks,i,env,nm,l,s,s',j,m,I,J,e=>by
  simp only[vp]at e;obtain⟨r,P⟩:∃ r,r=if bin=true/\i=1 then R env nm s else ((env,nm),s):=⟨_,rfl⟩
  rw[<-P]at e;have o:uS r.1.1:=by
   rw[P];split
   .exact C _ _ _ J
   .exact J
  split at e
  .cases e
  .rename_i T U s1 h1
   have g:=I r.1.1 k T U r.2 s1 (zj ..) o h1;split at e
   .cases e
   .rename_i a0 a1 m2 s2 h2
    obtain⟨q1,q2,q3⟩:=qb6 C (fun env k n' z s s' p=>I env k n' z s s' (qU _ p)) o h2;cases e;refine⟨by simp only[yU];rw[g.1,q1],by simp[q2],fun x t=>?_⟩;rcases qx.1 t with rfl|t
    .exact g.2
    .exact q3 x t
theorem UT(ts)(o:∀ p,p∈ts.sT->WfN p.body)(es):∀(f){env n n' body s s' z},uS env->WfN n->expI ts es f env n body s = .ok ((n',z),s')->z=cntT n'/\Small n'
 | 0,_,_,_,_,_,_,_,_,_,e=>by cases e
 |f+1,env,n,n',body,s,s',z,j,l,e=>by
  simp only[expI]at e;split at e
  .split at e
   .rename_i P
    have g:n.sD=[]:=by
     have hs:=l.shape;simp_all[shp,if_pos,qp,List.map_eq_nil_iff]
    unfold ZU at e;split at e
    .cases e
     exact⟨by rw[Va,g];rfl,l.small⟩
    .rename_i v t
     split at e
     .cases e
      refine⟨by rw[Va];show 1=1+yU n.sD;rw[g];rfl,.mk _ (by show n.sD.length<=1000;rw[g];simp) fun k i=>?_⟩;have i:k∈n.sD:=i
      grind
     .rename_i a R
      split at e
      .cases e
       exact j _ (Kz t) _ R
      .cases e
   .split at e
    .split at e
     .cases e
     .rename_i p T
      obtain⟨own,s1,C,e⟩:=YY e;have U:=qb5 (fun k n' z s s' i I=>UT ts o es f j (l.kid i) I) (fun e j=>absurd j qN) C;exact UT ts o es f U (o p (List.mem_of_find?_eq_some T)) e
    .obtain ⟨⟨a0,J,m⟩,s1,C,e⟩:=YY e
     cases e;obtain⟨q1,q2,q3⟩:=qb6 (fun env nm s h=>qm8 h) (fun env k n' z s s' i t I=>UT ts o es f t (l.kid i) I) j C;refine⟨by rw[Va];show 1+m=_;rw[q1];rfl,.mk _ ?_ q3⟩;show J.length<=1000;have:=l.len;omega
  .cases e
theorem qb7:∀{ks ps own s d},(∀ k s d,E k s = .error d->d=(2,0))->vo E ps ks own s = .error d->d=(2,0)
 | [],ps,own,s,d,_,e=>by
  have e:Except.ok (own,s)=(Except.error d:XR IEnv):=by cases ps<;>exact e
  cases e
 |k :: ks,[],own,s,d,_,e=>by cases e
 |k :: ks,p :: ps,own,s,d,g,e=>by
  simp only[vo]at e;split at e
  .rename_i j i
   cases e;exact g _ _ _ i
  .exact qb7 g e
theorem qb8{E:IEnv->Nd->ISt->XR (Nd×Int)}{bin}:∀{ks i env nm s d},(∀ env k s d,E env k s = .error d->d=(2,0))->vp E R bin i env nm ks s = .error d->d=(2,0)
 | [],i,env,nm,s,d,_,e=>by cases e
 |k :: ks,i,env,nm,s,d,g,e=>by
  simp only[vp]at e;split at e
  .rename_i j l
   cases e;exact g _ _ _ _ l
  .split at e
   .rename_i j o
    cases e;exact qb8 g o
   .cases e
theorem qb9{i q}{g:C->ISt->XR i}{d}(h:YT q g = .error d):q = .error d\/∃ a s,q = .ok (a,s)/\g a s = .error d:=by
 unfold YT at h;split at h
 .grind
 .exact .inr ⟨_,_,rfl,h⟩
theorem Vb(ts es):∀(f){env n body s d},expI ts es f env n body s = .error d->d=(2,0)
 | 0,_,_,_,_,_,e=>by cases e;rfl
 |f+1,env,n,body,s,d,e=>by
  simp only[expI]at e;split at e
  .split at e
   .unfold ZU at e
    split at e
    .cases e
    .split at e
     .cases e
     .split at e
      .cases e
      .cases e;rfl
   .split at e
    .split at e
     .cases e;rfl
     .rcases qb9 e with e|⟨own,g,i,e⟩
      .exact qb7 (fun k s d h=>Vb ts es f h) e
      .exact Vb ts es f e
    .rcases qb9 e with e|⟨own,g,i,e⟩
     .exact qb8 (fun env k s d h=>Vb ts es f h) e
     .cases e
  .cases e;rfl
def outI(ts:TS)(es:List (dA×Bool))(n:Nd):Except Dg Nd:=
 match expI ts es 4001 [] n false ⟨0,0⟩ with
 | .error d => .error d
 | .ok ((g,z),_)=>if z<=400/\depN g<=24 then .ok g else .error (2,n.pos)
theorem qm9{ts n d}(h:outI ts es n = .error d):d.1=2:=by
 grind [outI,Vb]
end
end YE
namespace YG
open YS P1 Y1 Y9 YX YZ YA YB YC YE Q6
def valD(l:List UInt8):Nat:=l.foldl (fun a b=>10*a+(b.toNat-48)) 0
theorem qnA(u):valD (Lib.decDigits u)=u:=by
 induction u using Nat.strongRecOn with
 |_ u g =>
  rw[Lib.decDigits];split
  .rename_i h
   simp only[valD,List.foldl_cons,List.foldl_nil];rw[UInt8.toNat_ofNat_of_lt' (by simp[UInt8.size];omega)];omega
  .rename_i h
   have:=g (u / 10) zOm;unfold valD at this⊢;rw[uz,this];simp only[List.foldl_cons,List.foldl_nil];rw[UInt8.toNat_ofNat_of_lt' (by simp[UInt8.size];omega)];omega
theorem qnB{a b:Nat}(h:vg (a:Int)=vg (b:Int)):a=b:=by
 have g:Lib.decDigits a=Lib.decDigits b:=by
  unfold vg Lib.itoa at h;rw[zIn,zIn]at h;simp only[Int.toNat_natCast]at h;have h:=congrArg (fun x:dA=>x.data.toList) h;simpa using h
 grind [qnA]
theorem qnC{p a b:dA}(h:p++a=p++b):a=b:=by
 simp_all
theorem qnD{a b:Nat}(h:vN (a:Int)=vN (b:Int)):a=b:=qnB (qnC h)
def badL(ts:TS)(es:List (dA×Bool)):List dA:=es.map Prod.fst++(ts.sA.map (fun f=>f.name)++ts.sS.flatMap fun s=>[s.1,s.1++yM,s.1++jl])
theorem qnE(ts es):(badL ts es).length+1=qE ts es:=by
 have:∀ l:List (dA×Bool),(l.flatMap fun s=>[s.1,s.1++yM,s.1++jl]).length=3*l.length:=by
  intro l;induction l with
  |nil=>rfl
  |cons a l g=>grind
 grind [badL,qE,zf,zX]
theorem qnF{ts es nm}(h:ug ts es nm=false):nm∈badL ts es:=by
 unfold ug at h;unfold badL;rw[Bool.and_eq_false_iff]at h;rcases h with h|h
 .have h:getK nm es=some true:=by simpa using h
  exact y8 _ (qn.2 ⟨_,Kz h,rfl⟩)
 .refine List.mem_append_right _ ?_
  have h:zM ts nm≠[]:=zUs h;unfold zM at h;by_cases hf:zQ ts.sA nm=[]
  .rw [hf,jp]at h
   refine List.mem_append_right _ ?_;have:∀(g:List (dA×Bool))(i:Nat),yf i g nm≠[]->nm∈g.flatMap fun s=>[s.1,s.1++yM,s.1++jl]:=by
    intro g;induction g with
    |nil=>intro i h;exact absurd rfl h
    |cons s g C =>
     intro i h;rw[uX,qJ];by_cases j:vC i s nm=[]
     .refine .inr (C (i+1) ?_)
      simpa[yf,j] using h
     .left
      unfold vC at j;by_cases l:s.1=nm
      .simp [l]
      by_cases o:s.2=true/\s.1++yM=nm
      .simp [o.2]
      by_cases p:s.2=true/\s.1++jl=nm
      .simp [p.2]
      exact absurd (by simp[l,o,p]) j
   exact this ts.sS 0 h
  .refine y8 _ ?_
   obtain⟨k,t⟩:=List.exists_mem_of_ne_nil _ hf;unfold zQ at t;obtain⟨f,hf,e⟩:=List.mem_filterMap.1 t;split at e
   .rename_i I
    exact qn.2 ⟨f,hf,I⟩
   .cases e
theorem qnG(ts es):Free ts es:=by
 intro l P;by_cases g:∃ j:Nat,1<=j/\j<=qE ts es/\ug ts es (vN (l+j))=true
 .exact g
 exfalso;obtain⟨L,rfl⟩:∃ L:Nat,l=L:=⟨l.toNat,zOm⟩;have o:∀ x,x∈(qr (qE ts es)).map (fun i=>vN ((L+(i+1):Nat):Int))->x∈badL ts es:=fun x C=>by
  obtain⟨i,I,rfl⟩:=qn.1 C;rw[zK]at I;refine qnF ?_;cases J:ug ts es (vN ((L+(i+1):Nat):Int)) with
  |false=>rfl
  |true=>exact absurd ⟨i+1,zOm,zOm,by rw[show (L:Int)+((i+1:Nat):Int)=((L+(i+1):Nat):Int) by omega];exact J⟩ g
 have p:((qr (qE ts es)).map (fun i=>vN ((L+(i+1):Nat):Int))).Nodup:=by
  refine List.pairwise_map.2 (List.nodup_range.imp fun t e=>t ?_);have:=qnD e;omega
 have:=ji p o;rw[zX,List.length_range]at this;have:=qnE ts es;omega
def putN(es:List (dA×Bool))(l:List Nd):List (dA×Bool):=l.foldl (fun es n=>setK n.name true es) es
def vr(ts:TS)(n:Nd):List (dA×Bool):=ts.sT.foldl (fun J p=>putN J (preN p.body)) (putN [] (preN n))
def zp(ts:TS)(n:Nd):Nd×Int:=
 if (jd ts [] n).1≠0 then (nd0,(jd ts [] n).1)
 else if anyN (fun n=>decide (n.op=47)) n=false then (n,0)
 else match outI ts (vr ts n) n with
  | .error d=>(nd0,d.1)
  | .ok g=>(g,0)
theorem qcA(p):∀ m n,szN n<=m->anyN p n=(preN n).any p
 | 0,n,g=>by obtain⟨op,nm,i,ks,q⟩:=n;simp[szN]at g
 |m+1,n,g=>by
  rw[Kc,Zn,List.any_cons];congr 1;have:∀ l:List Nd,(∀ k,k∈l->k∈n.sD)->jW p l=(zq l).any p:=by
   intro l;induction l with
   |nil=>intro _;rfl
   |cons k l o =>
    intro j;simp only[jW,zq,List.any_append];rw[o fun x t=>j x (qU _ t),qcA p m k (zW1 (qZ (j k (zj ..))))]
  exact this n.sD fun k C=>C
end YG
namespace YH
open P1 Y1 Y6 YX YZ
section
variable {b:Bool}{es:List (dA×Bool)}{mu:Mu}{ts:TS}
structure InM (ts:TS) (es:List (dA×Bool)) (b:Bool) (mu:Mu):Prop where
 r:mu[0]?=some (.arr [aI 0,aS ⟨#[]⟩,aI 0,.lst true [],aI 0])
 t:mu[2]?=some (.mp (eSet es))
 x:mu[3]?=some (.arr (cIn ts 2 ⟨0,0⟩))
 p:mu[4]?=some (.arr [.ptr 3 0])
 c:mu[5]?=some (.arr [aB b])
theorem InM.len(h:InM ts es b mu):5<mu.length:=(qj.1 h.c).1
theorem InM.push(h:InM ts es b mu)(l):InM ts es b (mu++l):=by
 have g:=h.len;exact⟨by rw[zGa];exact h.r,by rw[zGa];exact h.t,by rw[zGa];exact h.x,by rw[zGa];exact h.p,by rw[zGa];exact h.c⟩
theorem InM.setT{g}(h:InM ts es b mu):InM ts g b (mu.set 2 (.mp (eSet g))):=by
 have i:=h.len;exact⟨by rw[zGl];exact h.r,qH zOm,by rw[zGl];exact h.x,by rw[zGl];exact h.p,by rw[zGl];exact h.c⟩
theorem InM.setC{g}(h:InM ts es b mu):InM ts es g (mu.set 5 (.arr [aB g])):=by
 have i:=h.len;exact⟨by rw[zGl];exact h.r,by rw[zGl];exact h.t,by rw[zGl];exact h.x,by rw[zGl];exact h.p,qH zOm⟩
theorem qnH(mu):Rd mu eN0 (eNd nd0) := .agg _ _ rfl fun k x y g i=>by
 match k with
 | 0=>simp[nd0,cNd]at g i;subst g;subst i;exact .zsc _
 | 1=>simp[nd0,cNd]at g i;subst g;subst i;exact .zsc _
 | 2=>simp[nd0,cNd]at g i;subst g;subst i;exact .zsc _
 | 3=>simp[nd0,cNd,cNds]at g i;subst g;subst i;exact .wk _ true [] (.hf _ (HF.lst fun r j=>absurd j qN))
 | 4=>simp[nd0,cNd]at g i;subst g;subst i;exact .zsc _
 |k+5=>simp at g
theorem Vc(mu d):Rd mu (.tup [eN0,aI d]) (.tup [eNd nd0,aI d]) := .tup _ _ rfl fun k x y g i=>by
 match k with
 | 0=>grind [qnH]
 | 1=>simp at g i;subst g;subst i;exact .zsc _
 |k+2=>simp at g
end
end YH
end Go.Proofs.YthflbhjlkgdafaaGreatDoor
namespace Go.EvW
open Go Go.Ev Go.RowKit Go.ChangeShapes Go.WideShapes
section
variable {C H:Type}{c:C->List AV}{fs:List (qe×Nat)}{cs:List yc}{N:Nat}{P:qc}{e t:qe}{w:qf}
def CR(w:qf)(xs:List AV)(cs:List yc):Prop:=
 cs.length=xs.length/\∀(k:Nat) x,xs[k]?=some x->VRel ⟨(·<w.heap.size),[]⟩ w.heap x (cs.getD k uk)
theorem CR.nil(w):CR w [] []:=⟨rfl,zSp⟩
theorem CR.one{x v}(h:VRel ⟨(·<w.heap.size),[]⟩ w.heap x v):CR w [x] [v]:=⟨rfl,fun k y g=>by
 grind⟩
theorem CR.app{xs ys ds}(h:CR w xs cs)(k:CR w ys ds):CR w (xs++ys) (cs++ds):=by
 refine⟨by simp[h.1,k.1],fun i x g=>?_⟩;by_cases j:i<xs.length
 .rw [qI j]at g
  have:=h.2 i x g;rw[zr]at this⊢;rw[qI (by rw[h.1];exact j)];exact this
 .rw [zN zOm]at g
  have:=k.2 _ x g;rw[zr]at this⊢;rw[zN (by rw[h.1];omega),h.1];exact this
def jK(P:qc)(t:qe)(d:DataW H):Prop:=(d.weights P t).all (·<=reachBytes)=true
theorem jK.all:∀{ds:List (DataW H)},(DataW.weightsAll P e ds).all (·<=reachBytes)=true->∀(i:Nat) d,ds[i]?=some d->jK P e d
 | [],_,i,d,g=>by simp at g
 |x :: r,h,i,d,g=>by
  simp only[DataW.weightsAll,List.all_append,qB]at h;cases i with
  |zero=>simp at g;subst g;exact h.1
  |succ i=>exact jK.all h.2 i d (zUs g)
theorem tT:∀{ts}{ds:List (DataW H)},(DataW.weightsEach P ts ds).all (·<=reachBytes)=true->∀(i:Nat) t d,ts[i]?=some t->ds[i]?=some d->jK P t d
 | [],ds,_,i,t,d,g,_=>by simp at g
 |t0 :: ts,[],_,i,t,d,_,j=>by simp at j
 |t0 :: ts,x :: r,h,i,t,d,g,j=>by
  simp only[DataW.weightsEach,List.all_append,qB]at h;cases i with
  |zero=>simp at g j;subst g;subst j;exact h.1
  |succ i=>exact tT h.2 i t d (zUs g) (zUs j)
def ShT(P:qc)(n:Nat)(t:qe){C:Type}(c:C->List AV)(ok:C->Prop):Prop:=
 ∀(H:Type)(g:qe×yc->H)(w:qf)(i:List yc)(x:DataW H×List MemPlace),
  DataW.trod g P w 0 (fun _=>true) true n t i=some x->jK P t x.1->∃ a,ok a/\CR w (c a) i
def ShU(P:qc)(N:Nat)(t:qe){C:Type}(c:C->List AV)(ok:C->Prop):Prop:=∀ n,n<N->ShT P n t c ok
theorem ShU.le{M ok}(h:ShU P N t c ok)(g:M<=N):ShU P M t c ok:=fun n i=>h n zOm
theorem ShU.map{i ok c' g}(h:ShU P N t c ok)(f:C->i)(J:∀ a,c' (f a)=c a)(R:∀ a,ok a->g (f a)):ShU P N t c' g:=by
 intro n l H j w o x p I;obtain⟨a,T,U⟩:=h n l H j w o x p I
 grind
theorem ShU.int{k}(g:P.underlying t=some (.int k))(N):ShU P N t (fun n:Int=>[.sc (.int k n)]) (fun n=>(Lit.int k n).wf=true):=by
 intro n o H j w p x h _;obtain⟨i,rfl,_,l⟩:=DataW.trod_int g h;exact⟨i,l,.one (.sc _ rfl)⟩
theorem ShU.bool(g:P.underlying t=some .bool)(N):ShU P N t (fun b:Bool=>[.sc (.bool b)]) (fun _=>True):=by
 intro n l H j w o x h _;obtain⟨i,rfl,_⟩:=DataW.trod_bool g h;exact⟨i,trivial,.one (.sc _ rfl)⟩
theorem ShU.string(j:P.underlying t=some .string)(N):ShU P N t (fun s:dA=>[.sc (.string s)]) (fun s=>s.size<=140737488351232):=by
 intro n p H l w C x h g;obtain⟨i,rfl,rfl,I⟩:=DataW.trod_string j h;refine⟨i,?_,.one (.sc _ rfl)⟩;unfold jK at g;simp only[DataW.weights,List.all_cons,List.all_nil,Bool.and_true,decide_eq_true_eq]at g;have e:i.data.toList.length=i.size:=Array.length_toList;have o:i.size<=reachBytes:=by rw[<-e];exact g
 exact zH o (j0 rfl)
theorem qcB{a n}(h:w.cells? 0 a n=some cs):cs.length=n/\∀ i,i<n->w.cell? (a.add i)=some (cs.getD i uk):=by
 unfold World.cells? at h;rw[if_pos (Nat.zero_le _)]at h;have g:=mapM_some_length h;refine⟨zUs g,fun i j=>?_⟩;have:=mapM_some_get h i i (zP1 j)
 grind
theorem qcC{a v}(h:w.cell? a=some v):∃ arr e g,w.heap[a.block]?=some (.cells arr e g)/\a.spot=none/\arr[a.off]?=some v:=by
 unfold World.cell? at h;split at h
 .simp_all
 .cases h
theorem qnI[Inhabited C]{p:Nat->C->Prop}(n)(h:∀ i,i<n->∃ a,p i a):∃ l:List C,l.length=n/\∀(i) a,l[i]?=some a->p i a:=by
 induction n with
 |zero=>simp
 |succ n g =>
  obtain⟨l,j,o⟩:=g (fun i t=>h i zOm);obtain⟨a,I⟩:=h n zOm;refine⟨l++[a],zP1 j,fun i b J=>?_⟩
  grind
theorem ShU.slice[Inhabited C]{c ok}(ht:P.underlying t=some (.slice e))(he:ShU P N e c ok)(ak:∀ a,ok a->(c a).length=P.cellsOf e)(p:0<P.cellsOf e)(a5:Nat.blt 0 (P.bytesOf e)=true) :
  ShU P (N+1) t (fun l:List C=>[.lst false (l.map c)]) (fun l=>l.length<=140737488351232/\∀ a,a∈l->ok a):=by
 intro n hn H a6 w cs x h hw;rcases DataW.trod_slice ht h with ⟨rfl,_⟩|⟨a,len,cap,g,I,m,rfl,rfl,rfl,_,hl,hc,al,T,_,_⟩
 .exact ⟨[],⟨zSp,zSp⟩,.one (.nil _)⟩
 .have a7:(DataW.weightsAll P e (g.map (·.1))).all (·<=reachBytes)=true:=by
   simp_all[jK,DataW.weights,List.all_cons,List.all_append,qB]
  have an:len<=140737488351232:=by
   unfold jK at hw;simp only[DataW.weights,ht,List.all_cons,List.all_append,qB,decide_eq_true_eq]at hw;have J:=hw.1;have a8:1<=P.bytesOf e:=j0 a5;have h2:((g.map (·.1)).length+(I.map (·.1)).length)*1<=((g.map (·.1)).length+(I.map (·.1)).length)*P.bytesOf e:=Nat.mul_le_mul_left _ a8;simp only[zX]at J h2;have h3:reachBytes<=140737488351232:=j0 rfl;omega
  have key:∀ i,i<len->∃ b,ok b/\∃ o,w.cells? 0 (a.add (i*P.cellsOf e)) (P.cellsOf e)=some o/\CR w (c b) o:=by
   intro i hi;have J:=T i hi;have U:i<g.length:=zOm;rw[qw U]at J;obtain⟨o,h2,h3⟩:=Option.bind_eq_some_iff.1 J;obtain⟨b,h4,h5⟩:=he m zOm H a6 w o _ h3 (jK.all a7 i _ (by rw[zw,qw U];rfl))
   grind
  obtain⟨l,a9,a0⟩:=qnI len key;refine⟨l,⟨zOm,fun b hb=>?_⟩,.one ?_⟩
  .grind [List.mem_iff_getElem?]
  .have aa:(l.map c).length=len:=by simp[a9]
   rw[<-aa];cases Nat.eq_zero_or_pos len with
   |inl h0 =>
    have:l=[]:=uZ zOm;subst this;exact .emp _ a cap zSp
   |inr hp =>
    have ab:0<l.length:=zOm;obtain⟨_,ao,J,_⟩:=a0 0 l[0] (qw ab);obtain⟨ad,R⟩:=qcB J;have ae:=R 0 p;obtain⟨arr,el,fr,hb,hs,_⟩:=qcC ae;have ai:∀ k:Nat,a.spot=none->(a.add k).spot=none/\(a.add k).off=a.off+k:=by
     grind [Addr.add]
    have a1:∀(b:Addr)(j:Nat),(b.add j).block=b.block:=by
     grind [Addr.add]
    have e0:((a.add (0*P.cellsOf e)).add 0).block=a.block/\((a.add (0*P.cellsOf e)).add 0).spot=a.spot:=by
     grind [Addr.add]
    rw[e0.1]at hb;rw[e0.2]at hs;have hz:ja (P.cellsOf e) (l.map c):=fun r hr=>by
     obtain⟨b,aq,rfl⟩:=qn.1 hr
     grind [List.mem_iff_getElem?]
    have ar:=yy hz;refine .lst false (l.map c) (P.cellsOf e) a cap arr el fr (fun k=>arr.getD (a.off+k) uk) hb hs zOm zSp (Array.getElem?_eq_some_iff.1 hb).1 hz ?_ ?_
    all_goals
     intro k x hk;have au:k<(l.map c).length*P.cellsOf e:=by grind
     have hq:k / P.cellsOf e<l.length:=by
      simp_all[zX,Nat.div_lt_of_lt_mul,Nat.mul_comm]
     have hr:k % P.cellsOf e<P.cellsOf e:=Nat.mod_lt _ p;have av:k / P.cellsOf e*P.cellsOf e+k % P.cellsOf e=k:=by
      grind [Nat.div_add_mod,Nat.mul_comm]
     obtain⟨_,o,J,h2⟩:=a0 (k / P.cellsOf e) _ (qw hq);obtain⟨ad,R⟩:=qcB J;have af:=R _ hr;have a2:(l.map c)[k / P.cellsOf e]?=some (c l[k / P.cellsOf e]):=by rw[zw,qw hq];rfl
     have hx:(c l[k / P.cellsOf e])[k % P.cellsOf e]?=some x:=by
      have ag:k % P.cellsOf e<(c l[k / P.cellsOf e]).length:=by grind
      have:=Wr hz a2 (qw ag)
      grind
     obtain⟨aj,aw,ax,a3,ay,a4⟩:=qcC af;have e1:((a.add (k / P.cellsOf e*P.cellsOf e)).add (k % P.cellsOf e)).block=a.block:=by rw[a1,a1]
     have e2:((a.add (k / P.cellsOf e*P.cellsOf e)).add (k % P.cellsOf e)).off=a.off+k:=by
      grind [Addr.add]
     rw[e1,hb]at a3;cases a3;rw[e2]at a4;have ah:arr.getD (a.off+k) uk=o.getD (k % P.cellsOf e) uk:=by
      rw[qT,a4];rfl
    .grind
    .show VRel _ _ x (arr.getD (a.off+k) uk)
     rw[ah];exact h2.2 _ x hx
def UU(P:qc)(t:qe):Option (List (qe×Nat)):=match P.underlying t with|some (.struct g)=>some (g.toList.map fun f=>(f.type,f.offset))|_=>none
inductive ShF (P:qc) (N:Nat):Nat->List (qe×Nat)->{α:Type}->(α->List AV)->(α->Prop)->Prop where
 |nil (o:Nat):ShF P N o [] (fun _:Unit=>[]) (fun _=>True)
 |cons {o:Nat} {t:qe} {fs:List (qe×Nat)} {α β:Type} {c:α->List AV} {ok:α->Prop} {c':β->List AV} {ok':β->Prop} (h:ShU P N t c ok) (k:ShF P N (o+P.cellsOf t) fs c' ok') :
   ShF P N o ((t,o) :: fs) (fun x:α×β=>c x.1++c' x.2) (fun x=>ok x.1/\ok' x.2)
def Vd(P:qc)(fs:List (qe×Nat)):Nat:=(fs.map fun f=>P.cellsOf f.1).foldr (·+·) 0
theorem ShF.read{n o ok}(h:ShF P N o fs c ok)(J:n<N){H}{enc:qe×yc->H}{w}(cs:List yc)
  (p:cs.length=o+Vd P fs) (I:∀(i:Nat) f,fs[i]?=some f->∃ x,DataW.trod enc P w 0 (fun _=>true) true n f.1 ((cs.drop f.2).take (P.cellsOf f.1))=some x/\jK P f.1 x.1) :
  ∃ a,ok a/\CR w (c a) (cs.drop o):=by
 induction h with
 |nil o =>
  refine⟨(),trivial,?_⟩;rw[List.drop_of_length_le (by grind [Vd])];exact .nil w
 | @cons o t fs C β c ok c' R h k T =>
  obtain⟨x,j,l⟩:=I 0 _ rfl;obtain⟨a,U,hr⟩:=h n J H enc w _ x j l;have a0:Vd P ((t,o) :: fs)=P.cellsOf t+Vd P fs:=rfl;obtain⟨b,hb,hs⟩:=T zOm (fun i g hg=>I (i+1) g hg);refine⟨(a,b),⟨U,hb⟩,?_⟩;have e:cs.drop o=(cs.drop o).take (P.cellsOf t)++cs.drop (o+P.cellsOf t):=by
   rw[<-List.drop_drop,List.take_append_drop]
  rw[e];exact hr.app hs
theorem ShU.struct{ok}(j:UU P t=some fs)(hf:ShF P N 0 fs c ok)(U:P.cellsOf t=Vd P fs):ShU P (N+1) t c ok:=by
 intro n hn H l w cs x h hw;unfold UU at j;split at j
 .rename_i gs hu
  simp only[qp]at j;subst j;obtain⟨p,m,rfl,rfl,hl,a0,hg⟩:=DataW.trod_struct hu h;have J:(DataW.weightsEach P (gs.toList.map (·.type)) (p.map (·.1))).all (·<=reachBytes)=true:=by
   grind [jK,DataW.weights]
  obtain⟨a,ha,hr⟩:=hf.read (n:=m) zOm (w:=w) (enc:=l) cs zOm (fun i f R=>by
   simp only[zw,Option.map_eq_some_iff]at R;obtain⟨g,o,rfl⟩:=R;have T:=hg i g (zUs o);have I:i<p.length:=by
    grind
   rw[qw I]at T;exact⟨_,T,tT J i _ _ (by rw[zw,o];rfl) (by rw[zw,qw I];rfl)⟩)
  grind
 .cases j
theorem tK{c:C->AV}{ok}(h:∀ N,ShU P N t (fun a=>[c a]) ok)(g:∀ w r b v,Value.okWide P w r b t v->v.cells=#[v])
  {H} {enc} {w} {r} {b} {v} {d:DataW H} {ps} (i:Value.okWide P w r b t v) (l:DataW.Trod enc P w 0 (fun _=>true) true t v d ps) (o:jK P t d) :
  ∃ a,ok a/\VRel ⟨(·<w.heap.size),[]⟩ w.heap (c a) v:=by
 obtain⟨n,p⟩:=l;obtain⟨a,I,j⟩:=h (n+1) n zOm H enc w _ _ p o;rw[g w r b v i]at j;have:=j.2 0 (c a) rfl
 grind
theorem tA{ok fs}(h:∀ N,ShU P N t c ok)(j:P.underlying t=some (.struct fs))
  {H} {enc} {w} {r} {b} {v} {d:DataW H} {ps} (g:Value.okWide P w r b t v) (l:DataW.Trod enc P w 0 (fun _=>true) true t v d ps) (o:jK P t d) :
  ∃ a,ok a/\VRel ⟨(·<w.heap.size),[]⟩ w.heap (.agg (c a)) v:=by
 obtain⟨n,p⟩:=l;obtain⟨a,I,i⟩:=h (n+1) n zOm H enc w _ _ p o;unfold Value.okWide at g;rw[j]at g;obtain⟨R,rfl,_,_⟩:=g;refine⟨a,I,.agg _ _ (by simpa[Value.cells] using i.1) (fun k x J=>?_)⟩;have:=i.2 k x J
 grind [Value.cells,qT]
theorem qnJ{k}(g:P.underlying t=some (.int k))(w r b v)(h:Value.okWide P w r b t v):v.cells=#[v]:=by
 unfold Value.okWide at h;rw[g]at h;simp only[Cell.okWide,g]at h;cases v<;>simp_all[Value.cells,Cell.ok]
theorem qnK(g:P.underlying t=some (.slice e))(w r b v)(h:Value.okWide P w r b t v):v.cells=#[v]:=by
 unfold Value.okWide at h;rw[g]at h;simp only[Cell.okWide,g]at h;cases v<;>simp_all[Value.cells,Cell.ok]
end
end Go.EvW
namespace Go.EvW
open Go Go.Ev Go.RowKit Go.ChangeShapes Go.WideShapes
section
variable {C:Type}{c:C->List AV}{ts:List qe}{P:qc}{t:qe}{w:qf}
def jo(P:qc)(t:qe){C:Type}(c:C->AV)(ok:C->Prop):Prop:=
 ∀(H:Type)(g:qe×yc->H)(w:qf)(r:Reach)(b:Nat)(v:yc)(d:DataW H)(i:List MemPlace),Value.okWide P w r b t v->DataW.Trod g P w 0 (fun _=>true) true t v d i->jK P t d ->
  ∃ a,ok a/\VRel ⟨(·<w.heap.size),[]⟩ w.heap (c a) v
theorem jo.struct{ok}(g:(UU P t).isSome=true)(h:∀ N,ShU P N t c ok):jo P t (fun a => .agg (c a)) ok:=by
 intro H i w r b v d I j l o;unfold UU at g;split at g
 .rename_i J p;exact tA h p j l o
 grind
theorem jo.slice{e c}{ok:C->Prop}(g:P.underlying t=some (.slice e))(h:∀ N,ShU P N t (fun a=>[c a]) ok):jo P t c ok:=
 fun H i w r b v d p j l o=>tK h (qnK g) j l o
theorem jo.int{k c}{ok:C->Prop}(g:P.underlying t=some (.int k))(h:∀ N,ShU P N t (fun a=>[c a]) ok):jo P t c ok:=
 fun H i w r b v d p j l o=>tK h (qnJ g) j l o
inductive ArgF (P:qc):List qe->{α:Type}->(α->List AV)->(α->Prop)->Prop where
 |nil:ArgF P [] (fun _:Unit=>[]) (fun _=>True)
 |cons {t:qe} {ts:List qe} {α β:Type} {c:α->AV} {ok:α->Prop} {c':β->List AV} {ok':β->Prop} (h:jo P t c ok) (k:ArgF P ts c' ok'):ArgF P (t :: ts) (fun x:α×β=>c x.1 :: c' x.2) (fun x=>ok x.1/\ok' x.2)
theorem ArgF.read{ok}(h:ArgF P ts c ok){H enc w r b} :
  ∀{g}{ds:List (DataW H)}{ps},DataW.TrodAll enc P w 0 (fun _=>true) true ts g ds ps->(∀(j:Nat) t v,ts[j]?=some t->g[j]?=some v->Value.okWide P w r b t v)->(DataW.weightsEach P ts ds).all (·<=reachBytes)=true ->
  ∃ a,ok a/\ds.length=ts.length/\g.length=(c a).length/\∀(k) x,(c a)[k]?=some x->VRel ⟨(·<w.heap.size),[]⟩ w.heap x (g.getD k uk):=by
 induction h with
 |nil =>
  intro g ds ps i _ _;obtain⟨rfl,rfl,rfl⟩:=trodAll_nil i;simp
 | @cons t ts C β c ok c' R h k T =>
  intro g ds ps i J l;obtain⟨v,U,d,a0,p,q,rfl,rfl,rfl,h1,h2⟩:=trodAll_cons i;simp only[DataW.weightsEach,List.all_append,qB]at l;obtain⟨a,ha,hr⟩:=h H enc w r b v d p (J 0 t v rfl rfl) h1 l.1;obtain⟨a',o,I,hl,hg⟩:=T h2 (fun j t v=>J (j+1) t v) l.2;refine⟨(a,a'),⟨ha,o⟩,zP1 I,zP1 hl,fun k x hx=>?_⟩
  grind
theorem qcD(l:laidOutB P=true){H enc W o C}:∀{ts i}{ds:List (DataW H)}{ps},
  (∀ t,t∈ts->P.readableRec t=true/\t<P.types.size)->DataW.TrodAll enc P W 0 (fun _=>true) true ts i ds ps->(∀ p∈ps,W.sameAt o p)->(∀ p∈ps,C p.block=true)->DataW.TrodAll enc P o 0 C true ts i ds ps
 | [],i,ds,ps,_,h,_,_=>by
  obtain⟨rfl,rfl,rfl⟩:=trodAll_nil h;exact trodAll_mk0
 |t :: ts,i,ds,ps,I,h,J,R=>by
  obtain⟨v,T,d,U,p,q,rfl,rfl,rfl,g1,g2⟩:=trodAll_cons h;have j:=I t zSp;exact trodAll_cons_mk (WideElems.Trod_stays l j.1 j.2 g1 (fun x g=>J x (zP1 g)) (fun x g=>R x (zP1 g)))
   (qcD l (fun t j=>I t (zP1 j)) g2 (fun x g=>J x (zP1 g)) (fun x g=>R x (zP1 g)))
theorem qnL{f fn}{s:ChangeSpec}{tb ok}(hp:fn.params=ts.toArray)(hF:ArgF P ts c ok)(hv:s.vars=[])
  (T:∀ H ds,ds.length=ts.length->s.fn H ds={ results:=[.lit (.bool true)],args:=ds }) (hr:fn.resultTypes=#[tb]) (U:P.underlying tb=some .bool)
  (hl:laidOutB P=true) (a7:(ts.all fun t=>P.readableRec t&&decide (t<P.types.size))=true) (hS:∀ a,ok a->qh P f (c a) (aB true))
  (H) (I) (W) (base) (args) (ds gs:List (DataW H)) (g)
  (i:∀(j:Nat) t v,fn.params[j]?=some t->args[j]?=some v->Value.okWide P W .any base t v) (hW:DataW.Whole I P fn.params.toList s.vars false W args.toList ds gs g) (a8:(DataW.weightsEach P fn.params.toList ds).all (·<=reachBytes)=true) (hT:Zw (·<W.heap.size) W.heap) :
  Calls P f args W fun e W'=>∃ v,e = .returned v/\s.post I P fn false true false false W args v W':=by
 have a0:=hW;obtain⟨p,q,R,hV,J,a9,_⟩:=hW;rw[hv]at hV;obtain⟨hg,hq⟩:=trodVars_none hV;subst hg;subst hq;rw[zV]at J;subst J;rw[hp]at R i;obtain⟨a,ha,a1,a2,aa⟩:=hF.read (r := .any) (b:=base) R (fun j t v h1 h2=>i j t v (zUs h1) (zUs h2)) (by grind);have a3:∀ x,x∈g->x.block<W.heap.size:=fun x l=>R.lt x l
 obtain⟨_,o⟩:=hS a ha;refine(o (·<W.heap.size) W args (Sim.empty (fun _ h=>h) hT) ⟨zUs a2,fun k x hk=>?_⟩).mono fun e W' ⟨a6,v,he,_,_,hb,a4⟩=>?_
 .simp_all
 .have a5:v = .bool true:=by cases a4;rfl
  subst a5;refine⟨_,he,ds,[],g,[],g,[],a0,?_,?_,?_,World.keptBut_mono (fun x l=>⟨l,.inr (.inl l)⟩) (hb.frame (·∈g)),fun h=>by cases h⟩
  all_goals try rw[zV]
  all_goals try rw[T H ds a1]
  .rw [hr]
   exact trodAll_cons_mk (p':=[]) (shut_bool U true) trodAll_mk0
  .rw [hp]
   refine qcD hl (fun t ht=>?_) R (fun x l=>hb.same (a3 x l)) (fun x l=>by grind)
   grind
  .rw [hv];rfl
theorem ShF.cons'{N o o' fs i ok c' g}(j:o+P.cellsOf t=o')(h:ShU P N t c ok)(k:ShF P N o' fs c' g) :
  ShF P N o ((t,o) :: fs) (fun x:C×i=>c x.1++c' x.2) (fun x=>ok x.1/\g x.2):=by
 subst j;exact .cons h k
theorem qcE:∀{laid ps},DataW.LaidVars P w laid ps->∀ x,x∈laid->∃ g t cs fuel p,P.globalNamed x.1=some g/\(P.globals[g]?).map (·.type)=some t/\w.var? P x.1=some cs/\DataW.trod (fun _=>()) P w 0 (fun _=>true) false fuel t cs.toList=some (x.2,p)
 | [],_,_,x,i=>by simp at i
 | (n,d) :: r,ps,h,x,i=>by
  obtain⟨g,t,cs,fuel,p,q,l,o,C,I,j,_⟩:=h;rcases qx.1 i with rfl|i
  .grind
  .exact qcE j x i
theorem qnM{e n fuel k}(U:P.underlying t=some (.array n e))(he:P.underlying e=some (.int k))(hc:P.cellsOf e=1)(C:P.cellsOf t=n){cs}{ns:List Int}{p}
  (h:DataW.trod (fun _=>()) P w 0 (fun _=>true) false fuel t cs=some (.agg (ns.map fun i => .lit (.int k i)),p)):cs=ns.map fun i => .int k i:=by
 obtain⟨I,m,_,g,T,hn,j⟩:=DataW.trod_array U h;simp only[u4,DataW.agg.injEq]at g;have g:=g.1;have J:ns.length=n:=by have:=congrArg List.length g;simp at this;omega
 rw[C]at T;rw[hc]at j;apply List.ext_getElem
 .simp [T,J]
 .intro i h1 h2
  have R:=j i zOm;rw[Nat.mul_one]at R;have l:i<I.length:=zOm;rw[qw l]at R;obtain⟨z,e1,e2,_⟩:=DataW.trod_int he R;have h4:(I[i]).1=DataW.lit (.int k z):=by rw[e2]
  have o:(ns.map fun i=>(DataW.lit (.int k i):DataW Unit))[i]?=(I.map (·.1))[i]?:=by rw[g]
  rw[zw,zw,qw l,qw zOm]at o;simp only[Option.map_some,qp]at o;rw[h4]at o;simp only[DataW.lit.injEq,Lit.int.injEq,true_and]at o;have h6:(cs.drop i).take 1=[cs[i]]:=by rw[ze h1];rfl
  grind
theorem qnN{name g cs}(j:P.globalNamed name=some g)(h:w.var? P name=some cs):∃ e i,w.heap[g]?=some (.cells cs e i):=by
 grind [World.var?]
end
end Go.EvW
namespace Go.Proofs.YthflbhjlkgdafaaGreatDoor
open Go Go.Ev Go.Proofs Tryz
namespace DT
open Go.EvW Y1 P1 YF
theorem unInt:qd.underlying 3=some (.int .i64):=by kernel_rfl
theorem qcF:qd.underlying 4=some .bool:=by kernel_rfl
theorem qnO:qd.underlying 9=some .string:=by kernel_rfl
theorem qnP:qd.underlying 28=some (.slice 3):=by kernel_rfl
theorem qnQ:qd.underlying 22=some (.slice 75):=by kernel_rfl
theorem qnR:qd.underlying 23=some (.slice 77):=by kernel_rfl
theorem qnS:qd.underlying 32=some (.slice 34):=by kernel_rfl
theorem qnT:qd.underlying 35=some (.slice 54):=by kernel_rfl
theorem qnU:qd.underlying 24=some (.slice 84):=by kernel_rfl
theorem qnV:qd.underlying 25=some (.slice 86):=by kernel_rfl
abbrev okI(n:Int):Prop := -9223372036854775808<=n/\n<=9223372036854775807
abbrev okS(s:dA):Prop:=s.size<=140737488351232
instance:Inhabited Nd:=⟨.mk 0 ⟨#[]⟩ 0 [] 0⟩
instance:Inhabited Pd:=⟨⟨⟨#[]⟩,[],default⟩⟩
instance:Inhabited Fld:=⟨⟨⟨#[]⟩,[],false⟩⟩
theorem ZW(N):ShU qd N 3 (fun n:Int=>[aI n]) okI:=
 (ShU.int unInt N).map (fun n=>n) (fun _=>rfl) (fun n h=>by
  grind [Lit.wf,IntKind.min,IntKind.max,IntKind.signed,IntKind.bits])
theorem KP(N):ShU qd N 4 (fun b:Bool=>[aB b]) (fun _=>True):=ShU.bool qcF N
theorem Ja(N):ShU qd N 9 (fun s:dA=>[aS s]) okS:=ShU.string qnO N
theorem KQ(N):ShU qd N 28 (fun xs:List Int=>[lI xs]) (fun l=>l.length<=140737488351232/\∀ x,x∈l->okI x):=
 ((ShU.slice qnP (ZW N) (fun _ _=>zKr) (Nat.lt_of_lt_of_eq Nat.zero_lt_one zKr) zKr).le zOm).map (fun l=>l) (fun _=>rfl) fun _ h=>h
theorem qnW(N):ShU qd N 77 vA (fun f=>f.sS.length<=140737488351232/\∀ x,x∈f.sS->okI x):=
 ((ShU.struct (fs:=[(9,0),(28,1),(4,2)]) zKr (.cons' (o':=1) zKr (Ja N) (.cons' (o':=2) zKr (KQ N) (.cons' (o':=3) zKr (KP N) (.nil 3)))) zKr).map
  (fun x=>(⟨x.1,x.2.1,x.2.2.1⟩:Fld)) (fun _=>rfl) (fun x h=>h.2.1)).le zOm
theorem qnX(N):ShU qd N 75 JH (fun s=>okS s.1):=
 ((ShU.struct (fs:=[(9,0),(4,1)]) zKr (.cons' (o':=1) zKr (Ja N) (.cons' (o':=2) zKr (KP N) (.nil 2))) zKr).map
  (fun x=>((x.1,x.2.1):dA×Bool)) (fun _=>rfl) (fun x h=>h.1)).le zOm
theorem UV:∀ N,ShU qd N 34 cNd (fun _=>True)
 | 0=>fun n i=>absurd i zOm
 | N+1 =>
  have ks:ShU qd N 32 (fun l:List Nd=>[.lst false (l.map cNd)]) (fun _=>True):=((ShU.slice qnS (UV N) (fun a _=>(Yi a).trans zKr) (Nat.lt_of_lt_of_eq (show 0<5 by omega) zKr) zKr).le zOm).map (fun l=>l) (fun _=>rfl) fun _ _=>trivial
  ((ShU.struct (fs:=[(3,0),(9,1),(3,2),(32,3),(3,4)]) zKr
   (.cons' (o':=1) zKr (ZW N) (.cons' (o':=2) zKr (Ja N) (.cons' (o':=3) zKr (ZW N) (.cons' (o':=4) zKr ks (.cons' (o':=5) zKr (ZW N) (.nil 5)))))) zKr)).map
   (fun x=>Nd.mk x.1 x.2.1 x.2.2.1 x.2.2.2.1 x.2.2.2.2.1) (fun x=>by rw[jc];rfl) fun _ _=>trivial
theorem qnY(N):ShU qd N 54 cPm (fun p=>okI p.2):=
 ((ShU.struct (fs:=[(9,0),(3,1)]) zKr (.cons' (o':=1) zKr (Ja N) (.cons' (o':=2) zKr (ZW N) (.nil 2))) zKr).map
  (fun x=>((x.1,x.2.1):dA×Int)) (fun _=>rfl) (fun x h=>h.2.1)).le zOm
theorem qnZ(N):ShU qd N 35 (fun l:List (dA×Int)=>[lPm l]) (fun l=>l.length<=140737488351232):=
 ((ShU.slice qnT (qnY N) (fun _ _=>zKr) (Nat.lt_of_lt_of_eq (show 0<2 by omega) zKr) zKr).le zOm).map (fun l=>l) (fun _=>rfl) fun _ h=>h.1
theorem qn0(N):ShU qd N 84 cPd (fun _=>True):=
 ((ShU.struct (fs:=[(9,0),(35,1),(34,2)]) zKr (.cons' (o':=1) zKr (Ja N) (.cons' (o':=2) zKr (qnZ N) (.cons' (o':=7) zKr (UV N) (.nil 7)))) zKr).map
  (fun x=>(⟨x.1,x.2.1,x.2.2.1⟩:Pd)) (fun x=>by simp[cPd]) fun _ _=>trivial).le zOm
theorem qn1(N):ShU qd N 86 cFa (fun _=>True):=
 ((ShU.struct (fs:=[(9,0),(34,1)]) zKr (.cons' (o':=1) zKr (Ja N) (.cons' (o':=6) zKr (UV N) (.nil 6))) zKr).map
  (fun x=>((x.1,x.2.1):dA×Nd)) (fun x=>by simp[cFa]) fun _ _=>trivial).le zOm
structure okTA (ts:TS):Prop where
 so:∀ x,x∈ts.sS->okS x.1
 nso:ts.sS.length<=140737488351232
 nf:ts.sA.length<=140737488351232
 fl:∀ f,f∈ts.sA->f.sS.length<=140737488351232/\∀ x,x∈f.sS->okI x
theorem qn2(N):ShU qd N 27 cTS okTA:=by
 have s1:=(ShU.slice qnQ (qnX N) (fun _ _=>zKr) (Nat.lt_of_lt_of_eq (show 0<2 by omega) zKr) zKr).le (M:=N) zOm;have i:=(ShU.slice qnR (qnW N) (fun _ _=>zKr) (Nat.lt_of_lt_of_eq (show 0<3 by omega) zKr) zKr).le (M:=N) zOm;have j:=(ShU.slice qnU (qn0 N) (fun a h=>(Yn a).1.trans zKr) (Nat.lt_of_lt_of_eq (show 0<7 by omega) zKr) zKr).le (M:=N) zOm;have l:=(ShU.slice qnV (qn1 N) (fun a h=>(nD a).1.trans zKr) (Nat.lt_of_lt_of_eq (show 0<6 by omega) zKr) zKr).le (M:=N) zOm;have U:=ShU.struct (t:=27) (fs:=[(22,0),(23,1),(24,2),(25,3)]) zKr (.cons' (o':=1) zKr s1 (.cons' (o':=2) zKr i (.cons' (o':=3) zKr j (.cons' (o':=4) zKr l (.nil 4))))) zKr;exact(U.map (fun x=>(⟨x.1,x.2.1,x.2.2.1,x.2.2.2.1⟩:TS)) (fun _=>rfl) fun x h=>⟨h.1.2,h.1.1,h.2.1.1,h.2.1.2⟩).le zOm
theorem aSpec:jo qd 27 eTS okTA:=jo.struct zKr qn2
theorem aNode:jo qd 34 eNd (fun _=>True):=jo.struct zKr UV
theorem unU8:qd.underlying 5=some (.int .u8):=by kernel_rfl
theorem shU8(N):ShU qd N 5 (fun n:Int=>[.sc (.int .u8 n)]) (fun n=>0<=n/\n<=255):=
 (ShU.int unU8 N).map (fun n=>n) (fun _=>rfl) (fun n h=>by
  simp[Lit.wf,IntKind.min,IntKind.max,IntKind.signed,IntKind.bits]at h;exact h)
theorem aU8:jo qd 5 (fun n:Int => .sc (.int .u8 n)) (fun n=>0<=n/\n<=255):=jo.int unU8 shU8
end DT
namespace QA
end QA
namespace QB
def WkR:List (List AV)->List (List AV)->Prop
 | [],[]=>True
 |x :: p,y :: j=>WKs x y/\WkR p j
 |_,_=>False
theorem qcG:∀{xs ys g i},WKs xs ys->WKs g i->WKs (xs++g) (ys++i)
 | [],[],_,_,_,j=>j
 |_ :: _,_ :: _,_,_,⟨h,t⟩,j=>⟨h,qcG t j⟩
 | [],_ :: _,_,_,h,_=>h.elim
 |_ :: _,[],_,_,h,_=>h.elim
theorem qcH:∀{xs ys},WkR xs ys->ys.length=xs.length/\(∀(k:Nat) x y,xs[k]?=some x->ys[k]?=some y->x.length=y.length)/\WKs xs.flatten ys.flatten
 | [],[],_=>⟨rfl,fun k x y h=>by simp at h,trivial⟩
 |x :: xs,y :: ys,⟨h,t⟩=>by
  obtain⟨j,l,o⟩:=qcH t;refine⟨zP1 j,fun k a b g i=>?_,by rw[u3,u3];exact qcG h o⟩;cases k with
  |zero=>simp at g i;subst g;subst i;exact h.get.1.symm
  |succ k=>exact l k a b (zUs g) (zUs i)
 | [],_ :: _,h=>h.elim
 |_ :: _,[],h=>h.elim
theorem wH{full xs ys}(h:WkR xs ys):WK (.lst full xs) (.lst false ys):=by
 obtain⟨l,C,I⟩:=qcH h;have J:=pF l C;have P:=I.get.2;intro G R v r;cases r with
 |nil=>cases ys with
  |nil=>exact .nil _
  |cons=>simp at l
 |emp _ a cap T=>cases ys with
  |nil=>exact .emp _ a cap zSp
  |cons=>simp at l
 |lst _ _ sz a cap U e fr rd hb hs hl T hi o hr hv =>
  rw[<-l];have g:∀(k:Nat) y,ys.flatten[k]?=some y->∃ x,xs.flatten[k]?=some x:=by
   intro k y j;have p:k<ys.flatten.length:=(qj.1 j).1;exact⟨xs.flatten[k]' zOm,by simp only[qw (show k<xs.flatten.length by omega)]⟩
  refine .lst false ys sz a cap U e fr rd hb hs zOm zSp hi ?_ ?_ ?_
  .intro r t
   obtain⟨k,p⟩:=List.mem_iff_getElem?.1 t;have a0:k<ys.length:=(qj.1 p).1;have i:xs[k]?=some (xs[k]' zOm):=by simp[show k<xs.length by omega]
   rw[<-C k _ r i p];exact o _ (List.mem_of_getElem? i)
  .intro k y j
   obtain⟨x,i⟩:=g k y j;exact hr k x i
  .intro k y j
   obtain⟨x,i⟩:=g k y j;exact P k x y i j G R _ (hv k x i)
end QB
namespace PB
open P1 P2 Y1 Y2 Y6 Y9 YW
def Sub(a b:Kd):Prop:=a.ar=b.ar/\∀ t,t∈a.ts->t∈b.ts
theorem qn3{n m a g b i}(j:∀ t,t∈a->t∈g)(l:∀ t,t∈b->t∈i):∀ t,t∈uK n m a b->t∈uK n m g i:=fun t o=>by
 grind [Qy]
theorem KS{a j b l}(g:Sub a j)(i:Sub b l):Sub (zG a b) (zG j l):=by
 refine⟨by simp only[zG];rw[g.1,i.1],fun t o=>?_⟩;simp only[zG]at o⊢;rw[<-g.1,<-i.1];exact qn3 g.2 i.2 t o
theorem Jb{a b}{t:Tp}:t∈(kSum a b).ts↔t∈a.ts\/t∈b.ts:=by
 show t∈uni (uni [] a.ts) b.ts↔_;rw[vX,vX];simp
theorem Sub.refl(a):Sub a a:=⟨rfl,fun _ h=>h⟩
theorem Sub.trans{a b c}(h:Sub a b)(k:Sub b c):Sub a c:=⟨h.1.trans k.1,fun t g=>k.2 t (h.2 t g)⟩
theorem KU(a b):Sub a (kSum a b):=⟨rfl,fun t g=>Jb.2 (.inl g)⟩
def UW(k:Kd):Prop:=∀ t,t∈(zG k k).ts->t∈k.ts
theorem qcI:∀ f n a,Sub a (cloN f n a)
 | 0,n,a => .refl a
 |f+1,n,a=>by
  unfold cloN;split
  .exact (KU a _).trans (qcI f _ _)
  .exact .refl a
theorem qcJ{S}(i:UW S):∀ f n a,Sub a S->Sub (cloN f n a) S
 | 0,n,a,h=>h
 |f+1,n,a,h=>by
  unfold cloN;split
  .refine qcJ i f _ _ ⟨h.1,fun t g=>?_⟩
   rcases Jb.1 g with g|g
   .exact h.2 t g
   .exact i t ((KS h h).2 t g)
  .exact h
theorem qcK{ns}(o:ns<=4):∀ f n a,okKd ns a->a.ar=2->70<=f+n->(n=0\/∃ p,okKd ns p/\p.ar=2/\n=p.ts.length/\a=kSum p (zG p p))->UW (cloN f n a)
 | 0,n,a,g,C,hf,I=>by
  rcases I with rfl|⟨p,P,_,rfl,_⟩
  .omega
  grind [cY]
 |f+1,n,a,g,C,hf,I=>by
  unfold cloN;split
  .rename_i U
   have hj:okKd ns (zG a a):=J3 g g zOm zOm;refine qcK o f _ _ (J1 g hj (by grind [zG])) C zOm (.inr ⟨a,g,C,rfl,rfl⟩)
  .rename_i a0
   rcases I with rfl|⟨p,P,a1,rfl,rfl⟩
   .have:a.ts=[]:=uZ zOm
    intro t i;obtain⟨x,y,⟨J,_⟩,_⟩:=Qy.1 i
    grind
   .have j:∀ t,t∈(kSum p (zG p p)).ts->t∈p.ts:=by
     have a2:(kSum p (zG p p)).ts.Nodup:=g.nd;have a3:∀ t,t∈p.ts->t∈(kSum p (zG p p)).ts:=(KU p _).2;intro t i;by_cases R:t∈p.ts
     .exact R
     .exfalso
      have l:(t :: p.ts).Nodup:=j5.2 ⟨R,P.nd⟩;have:=ji l (l₂:=(kSum p (zG p p)).ts) (fun x J=>by
       rcases qx.1 J with rfl|J
       .exact i
       grind)
      grind
    intro t i;have T:Sub (kSum p (zG p p)) p:=⟨rfl,j⟩;exact Jb.2 (.inr ((KS T T).2 t i))
section
variable {ts:TS} (ok:okTS ts) (a b d:Nd)
include ok
end
end PB
namespace PC
open P1 Y1 Y2 Y10 YZ YC Q4
theorem apK1(ns op n pos a):zz ns op n pos [some a]=if op=2 then .ok (some ⟨n,[]⟩) else if op=3 then .ok (some (zt ns 1)) else if op=4 then .ok (some (zt ns 2)) else
  if op=5 then .ok (some a) else if op=11\/op=12\/op=13 then (if a.ar=2 then .ok (some (binK ns op a)) else .error (42,pos)) else .ok none:=rfl
theorem apK2(ns op n pos a b) : zz ns op n pos [some a, some b] = if op = 2 then .ok (some ⟨n, []⟩) else if op = 3 then .ok (some (zt ns 1)) else if op = 4 then .ok (some (zt ns 2)) else
      if op=6\/op=14\/op=7\/op=8\/op=32\/op=33 then (if a.ar=b.ar then .ok (some (vY op a b)) else .error (42,pos))
      else if op=9 then (if 1<=a.ar+b.ar-2/\a.ar+b.ar-2<=3 then .ok (some (zG a b)) else .error (42,pos))
      else if op=10 then (if a.ar+b.ar<=3 then .ok (some (Qv a b)) else .error (42,pos))
      else .ok none:=rfl
theorem KY(ts i):∀ m,i<m->m<=ts.sT.length->∀ j,(tmsL ts m).getD i false=yQ (mkCk ts i) ts.sT[i].body
 | 0,h,_,_=>absurd h zOm
 |m+1,h,t,j=>by
  have l:=ZN ts m zOm;have g:m<ts.sT.length:=zOm;have e:tmsL ts (m+1)=tmsL ts m++[yQ (mkCk ts m) ts.sT[m].body]:=by
   show tmsL ts m++(match ts.sT[m]? with|some p=>[yQ ⟨ts,m,tmsL ts m⟩ p.body] | none=>[])=_;rw[qw g];rfl
  rw[e];by_cases o:i<m
  .rw [<-KY ts i m o zOm j]
   simp only[zr];rw[zGa]
  .have:i=m:=by omega
   subst this;simp only[zr];rw[zN zOm,l];simp
def OwnT(n:Nd):Prop:=∀ x,x∈preN n->ownB x=true
theorem OwnT.kid{n k}(h:OwnT n)(g:k∈n.sD):OwnT k:=fun x i=>h x (qbW g i)
theorem KZ{ks x}(h:x∈zq ks):∃ k,k∈ks/\x∈preN k:=by
 induction ks with
 |nil=>simp[zq]at h
 |cons a l g =>
  simp only[zq,qJ]at h;rcases h with h|h
  .exact ⟨a,zj ..,h⟩
  .obtain ⟨k,i,j⟩:=g h
   exact⟨k,qU _ i,j⟩
end PC
namespace PD
end PD
namespace PE
open P2 Y1
theorem qn4{n}(g:WfN n)(h:n.op=1):n.sD=[]:=by
 have i:=g.shape;simp_all[shp,if_pos,qp,List.map_eq_nil_iff]
theorem qcL{n}(i:WfN n)(h:30<=n.op):kd n.op=102:=by
 have g:=i.shape;have:n.op<=51:=by
  by_cases j:n.op<=51
  .exact j
  .exfalso
   unfold shp at g;rw[zIn,zIn,zIn,zIn,zIn,zIn,zIn,zIn]at g;cases g
 unfold kd;omega
theorem K0{n}(i:WfN n)(h:n.op=15\/n.op=45\/n.op=46):∃ a f,n.sD=[a,f]/\kd a.op=101:=by
 have g:=i.shape;unfold shp at g;rw[zIn,zIn,zIn,if_pos zOm]at g;simp only[qp]at g
 match j:n.sD,g with
 | [a,f],g =>
  grind
 | [],g=>simp at g
 | [_],g=>simp at g
 |_ :: _ :: _ :: _,g=>simp at g
end PE
namespace PG
open Y1 Y2 P1 P2 Y9 YZ
theorem qn5{ns op n pos l e}(h:zz ns op n pos l = .error e):40<=e.1:=by
 unfold zz at h
 repeat' split at h
 all_goals first
  | (cases h;done)
  | (cases h;simp)
theorem qn6{c s nm pos e}(h:yG c s nm pos = .error e):40<=e.1:=by
 unfold yG at h
 repeat' split at h
 all_goals first
  | (cases h;done)
  | (cases h;simp)
section
variable {c:Ck}
theorem Yz{inn}:∀{ks s e},(∀ k,k∈ks->∀ s e,exam c s inn k = .error e->40<=e.1)->zl c s inn ks = .error e->40<=e.1
 | [],s,e,_,h=>by simp only[zl]at h;cases h
 |k :: ks,s,e,i,h=>by
  simp only[zl]at h;split at h
  .rename_i j g
   cases h;exact i k (zj ..) s _ g
  .split at h
   .rename_i j g
    cases h;exact Yz (fun k l=>i k (qU _ l)) g
   .cases h
theorem UH{pos}:∀{ks ps s e},(∀ k,k∈ks->∀ s e,exam c s true k = .error e->40<=e.1)->zZ c s pos ps ks = .error e->40<=e.1
 | [],ps,s,e,_,h=>by cases ps<;>(simp only[zZ]at h;cases h)
 |k :: ks,[],s,e,_,h=>by simp only[zZ]at h;cases h
 |k :: ks,p :: ps,s,e,g,h=>by
  simp only[zZ]at h;split at h
  .rename_i l i
   cases h;exact g k (zj ..) s _ i
  .cases h;simp
  .split at h
   .split at h
    .exact UH (fun k j=>g k (qU _ j)) h
    .cases h;simp
   .cases h;simp
theorem qn7{inn nm pos}:∀{ks s e},(∀ k,k∈ks->∀ s e,exam c s inn k = .error e->40<=e.1)->yR c s inn nm pos ks = .error e->40<=e.1
 | [],s,e,_,h=>by simp only[yR]at h;cases h
 |k :: ks,s,e,i,h=>by
  simp only[yR]at h;split at h
  .rename_i j g
   cases h;exact i k (zj ..) s _ g
  .cases h;simp
  .split at h
   .split at h
    .rename_i j g
     cases h;exact Yz (fun k l=>i k (qU _ l)) g
    .cases h
   .cases h;simp
theorem Zf(c):∀ m n s inn e,szN n<=m->exam c s inn n = .error e->40<=e.1
 | 0,n,_,_,_,j,_=>by obtain⟨op,nm,i,ks,p⟩:=n;simp[szN]at j
 |m+1,n,s,inn,e,j,h=>by
  have g:∀ inn k,k∈n.sD->∀ s e,exam c s inn k = .error e->40<=e.1:=fun inn k l s e h=>Zf c m k s inn e (zW1 (qZ l)) h
  rw[jU]at h;split at h
  .cases h;simp
  split at h
  .exact qn6 h
  split at h
  .split at h
   .split at h
    .cases h;simp
    .split at h
     .cases h;simp
     .split at h
      .exact UH (g true) h
      .cases h;simp
   .cases h;simp
  split at h
  .exact qn7 (g _) h
  .split at h
   .rename_i t o
    cases h;exact Yz (g _) o
   .exact qn5 h
end
theorem qcM{ks k}(h:k∈ks):depN k<=yu ks:=by
 induction ks with
 |nil=>simp at h
 |cons a l g =>
  simp only[yu];rcases qx.1 h with rfl|h
  .omega
  .have:=g h;omega
theorem qcN(n):1<=depN n:=by
 rw[Zm];have:∀ ks:List Nd,0<=yu ks:=by
  intro ks;induction ks with
  |nil=>simp[yu]
  |cons a l g=>simp only[yu];omega
 have:=this n.sD;omega
end PG
namespace PF
open P1 P2 Y1 Y2 Y9 Y16 YZ YB YC YE YG Q2 Q4 PC PE PG
mutual
theorem K1:∀(n:Nd)(left:Int),cntT n<=left->cntN n left=cntT n
 | .mk op nm i ks p,left,h=>by
  simp only[cntT,cntN]at h⊢;exact qcO ks left 1 h
theorem qcO:∀(ks:List Nd)(left sum:Int),sum+yU ks<=left->yB ks left sum=sum+yU ks
 | [],left,sum,h=>by simp only[yU,yB];omega
 |k :: ks,left,sum,h=>by
  simp only[yU,yB]at h⊢;have g:=UQ k;have i:=UR ks;rw[if_pos zOm,K1 k (left-sum) zOm,qcO ks left _ zOm];omega
end
mutual
theorem qcP:∀(n:Nd)(left:Int),cntN n left<=left->cntT n<=left
 | .mk op nm i ks p,left,h=>by
  simp only[cntT,cntN]at h⊢;exact qcQ ks left 1 h
theorem qcQ:∀(ks:List Nd)(left sum:Int),yB ks left sum<=left->sum+yU ks<=left
 | [],left,sum,h=>by simp only[yU,yB]at h⊢;omega
 |k :: ks,left,sum,h=>by
  simp only[yU,yB]at h⊢;split at h
  .have i:=(Ka ks left (sum+cntN k (left-sum))).1
   have g:cntN k (left-sum)<=left-sum:=zOm;have j:=K1 k (left-sum) (qcP k _ g);have l:=qcQ ks left _ h;omega
  .omega
end
section
variable {c:Ck}
theorem qn8{ks d}(g:0<=d)(h:∀ k,k∈ks->depN k<=d):yu ks<=d:=by
 induction ks with
 |nil=>grind [yu]
 |cons a l i =>
  grind [yu,zj,qU]
theorem qn9{ks g}(h:∀ k,k∈ks->forN k g=true):uN ks g=true:=by
 induction ks with
 |nil=>rfl
 |cons a l i =>
  simp_all[uN,qB,zj,qU]
theorem qcR:∀ m n g,szN n<=m->WfN n->OwnT n->depN n<=g->forN n g=true
 | 0,n,_,l,_,_,_=>by obtain⟨op,nm,i,ks,p⟩:=n;simp[szN]at l
 |m+1,n,g,l,o,t,C=>by
  have I:=qcN n;rw[J6,zIn,t n (Kv n),Bool.true_and,qB];refine⟨?_,qn9 fun k j=>qcR m k (g-1) (zW1 (qZ j)) (o.kid j) (t.kid j) ?_⟩
  .unfold fitB
   rw[decide_eq_true_eq];exact o.shape
  .have:=qcM j
   rw[Zm]at C;omega
theorem qcS:∀ m n l,szN n<=m->forN n l=true->OwnT n/\depN n<=l
 | 0,n,_,o,_=>by obtain⟨op,nm,i,ks,p⟩:=n;simp[szN]at o
 |m+1,n,l,o,h=>by
  rw[J6]at h;split at h
  .cases h
  .rename_i J
   simp only[qB]at h;obtain⟨C,P,I⟩:=h;have t:=fun k (g:k∈n.sD)=>qcS m k (l-1) (zW1 (qZ g)) (Kb I k g)
   refine⟨fun x j=>?_,?_⟩
   .rw [Zn]at j
    rcases qx.1 j with rfl|j
    .exact C
    .obtain ⟨k,g,j⟩:=KZ j
     exact(t k g).1 x j
   .rw [Zm]
    have:=qn8 (ks:=n.sD) (d:=l-1) zOm fun k g=>(t k g).2
    omega
theorem Zp{n}:zT n=true↔WfN n/\OwnT n/\cntT n<=400/\depN n<=24:=by
 constructor
 .intro h
  have l:=vj h;simp only[zT,qB,decide_eq_true_eq]at h;obtain⟨a,b⟩:=qcS (szN n) n 24 (qk _) h.2;simp_all[qcP]
 .rintro ⟨g,i,o,j⟩
  simp only[zT,qB,decide_eq_true_eq];exact⟨by grind [K1],qcR (szN n) n 24 (qk _) g i j⟩
theorem qcT{nm i}(h:zy c nm=some i)(g):(c.ts.sT.find? fun p=>decide (p.name=nm))=some c.ts.sT[i]:=by
 unfold zy at h;rw[List.findIdx?_eq_some_iff_getElem]at h;obtain⟨l,o,t⟩:=h;rw[List.find?_eq_some_iff_getElem];refine⟨?_,i,g,rfl,fun j C=>?_⟩
 .grind
 grind
theorem qcU{s pos}:∀{ks ps l},ps.length=ks.length->zZ c s pos ps ks = .ok l->∀ k,k∈ks->∃ a,exam c s true k = .ok a
 | [],_,_,_,_,k,g=>absurd g qN
 |k :: ks,[],_,i,_,_,_=>by simp at i
 |k :: ks,p :: ps,l,i,h,x,j=>by
  simp only[zZ]at h;split at h
  .cases h
  .cases h
  .rename_i a g
   split at h
   .split at h
    .rcases qx.1 j with rfl|j
     .exact ⟨_,g⟩
     .exact qcU (zUs i) h x j
    .cases h
   .cases h
theorem UX{s inn}:∀{ks l},zl c s inn ks = .ok l->∀ k,k∈ks->∃ a,exam c s inn k = .ok a
 | [],_,_,k,g=>absurd g qN
 |k :: ks,l,h,x,i=>by
  simp only[zl]at h;split at h
  .cases h
  .rename_i a g
   split at h
   .cases h
   .rename_i o j
    rcases qx.1 i with rfl|i
    .exact ⟨_,g⟩
    .exact UX j x i
theorem K2(hc:okCk c):∀ m n s inn o,szN n<=m->exam c s inn n = .ok o->WfN n->vq c.ts n
 | 0,n,_,_,_,hm,_,_=>by obtain⟨op,nm,i,ks,p⟩:=n;simp[szN]at hm
 |m+1,n,s,inn,o,hm,h,hw=>fun x j ho=>by
  have ih:∀ k,k∈n.sD->∀ s inn o,exam c s inn k = .ok o->vq c.ts k:=fun k C s inn o h=>K2 hc m k s inn o (zW1 (qZ C)) h (hw.kid C)
  rw[jU]at h;rw[Zn]at j;split at h
  .cases h
  by_cases h1:n.op=1
  .rw [qn4 hw h1]at j
   rcases qx.1 j with rfl|j
   .omega
   .simp [zq]at j
  rw[if_neg h1]at h;have I:∀(s:Nd->Scp)(inn:Nd->Bool),(∀ k,k∈n.sD->∃ o,exam c (s k) (inn k) k = .ok o)->x∈zq n.sD->∃ p,(c.ts.sT.find? fun p=>decide (p.name=x.name))=some p/\p.params.length=x.sD.length:=fun s inn C j=>by
   obtain⟨k,J,j⟩:=KZ j;obtain⟨o,a0⟩:=C k J;exact ih k J _ _ _ a0 x j ho
  by_cases h47:n.op=47
  .rw [if_pos h47]at h
   split at h
   .split at h
    .cases h
    .rename_i i P
     obtain⟨_,a1⟩:=ZK hc P;rw[qw a1]at h;simp only at h;split at h
     .rename_i R
      rcases qx.1 j with rfl|j
      .grind [qcT]
      .exact I (fun _=>s) (fun _=>true) (qcU R h) j
     .cases h
   .cases h
  rw[if_neg h47]at h;have j:x∈zq n.sD:=by
   rcases qx.1 j with rfl|j
   .omega
   .exact j
  by_cases T:n.op=15\/n.op=45\/n.op=46
  .rw [if_pos T]at h
   obtain⟨a,g,t,_⟩:=K0 hw T;rw[t]at h;simp only[yR]at h;split at h
   .cases h
   .cases h
   .rename_i k C
    split at h
    .split at h
     .cases h
     .rename_i l hl
      obtain⟨y,U,j⟩:=KZ j;rw[t]at U;rcases qx.1 U with rfl|U
      .exact ih y (by rw[t];simp) _ _ _ C x j ho
      .rw [qQ]at U
       subst U;obtain⟨b,T⟩:=UX hl y zSp;exact ih y (by rw[t];simp) _ _ _ T x j ho
    .cases h
  .rw [if_neg T]at h
   split at h
   .cases h
   .rename_i l hl
    exact I (fun _=>s) (fun _=>_) (fun k C=>UX hl k C) j
theorem UY{env n}(h:(jF c env n).1=0):30<=n.op/\∃ g,exam c (yg env) false n = .ok g:=by
 unfold jF at h;split at h
 .rename_i i
  refine⟨i,?_⟩;cases j:exam c (yg env) false n with
  |ok g=>exact⟨g,rfl⟩
  |error e =>
   rw[j]at h;have:=PG.Zf c (szN n) n _ _ e (qk _) j;have h:e.1=0:=h;omega
 omega
theorem qoA{ts}(h:uf ts=[])(i g):(jF (mkCk ts i) ts.sT[i].params ts.sT[i].body).1=0:=by
 simp_all[uf,List.append_eq_nil_iff,List.flatMap_eq_nil_iff,zK,ue,qw,rp]
theorem qcV(l):∀ es,(putN es l).length<=es.length+l.length:=by
 have i:∀(es:List (dA×Bool))(k:dA),(setK k true es).length<=es.length+1:=by
  intro es k;induction es with
  |nil=>simp[setK]
  |cons a es g=>grind [setK]
 induction l with
 |nil=>grind [putN]
 |cons a l g =>
  grind [setK,putN,yp]
mutual
theorem Ve:∀ n:Nd,((preN n).length:Int)=cntT n
 | .mk op nm i ks p=>by simp only[preN,cntT,yp];have:=qcW ks;omega
theorem qcW:∀ ks:List Nd,((zq ks).length:Int)=yU ks
 | []=>rfl
 |k :: ks=>by simp only[zq,yU,zf];have:=Ve k;have:=qcW ks;omega
end
end
theorem qoB{ts}(h:okTS ts)(g:∀ p,p∈ts.sT->zT p.body=true){n}(i:zT n=true):qE ts (vr ts n)<=200000:=by
 have j:∀(l:List Pd)(J:List (dA×Bool)),(∀ p,p∈l->zT p.body=true)->(l.foldl (fun J p=>putN J (preN p.body)) J).length<=J.length+400*l.length:=by
  intro l;induction l with
  |nil=>intro J _;simp
  |cons a l o =>
   grind [putN,preN,qU,qcV,Ve,Zp,zj]
 have t:=j ts.sT (putN [] (preN n)) g;have C:=qcV (preN n) [];have I:=Ve n;have P:=(Zp.1 i).2.2.1;have:=h.np;have:=h.nf;have:=h.ns
 grind [qE,vr,List.length_nil]
end PF
namespace KG
open Y1 Y9 Y10 P1 P2 PF PE KA KB KE KF
section
variable {c:Ck}
def Fm(c:Ck)(n:Nd):Prop:=WfN n/\kd n.op=102/\∃ b g,exam c [] b n = .ok g
theorem K3{op}(h:kd op=102):30<=op/\op<=51:=by
 unfold kd at h;split at h
 .omega
 split at h
 .omega
 split at h
 .omega
 .omega
theorem K4{n}(h:Fm c n)(p:n.op≠45/\n.op≠46/\n.op≠47):∃ b l i,zl c [] b n.sD = .ok l/\zz c.ts.sS.length n.op n.n n.pos l = .ok i:=by
 obtain⟨t,o,b,i,g⟩:=h;have C:=K3 o;rw[jU]at g;split at g
 .cases g
 rw[zIn,zIn,zIn]at g;cases j:zl c [] (b||decide (n.op=12)||decide (n.op=13)) n.sD with
 |error e=>rw[j]at g;cases g
 |ok l=>rw[j]at g;exact⟨_,l,i,j,g⟩
theorem Vf{n}(h:Fm c n)(i:n.op≠45/\n.op≠46/\n.op≠47){k}(g:k∈n.sD)(j:kd k.op=102):Fm c k:=by
 obtain⟨b,l,t,o,_⟩:=K4 h i;obtain⟨a,p⟩:=UX o k g;exact⟨h.1.kid g,j,b,a,p⟩
theorem qcX(i:okCk c){n}(h:Fm c n):TyK (arS c []) n:=by
 have j:ScOk c.ts.sS.length []:=fun v hv=>absurd hv qN
 refine⟨fun o=>?_,fun o=>?_⟩
 .obtain ⟨b,l,ko,t,_⟩:=K4 h zOm
  obtain⟨k,g,C⟩:=uu (a:=101) h.1 (by unfold shp;rw[zIn,if_pos zOm]);rw[g]at t;obtain⟨q,rfl,I⟩:=exL1 t;have J:=h.1.kid (k:=k) (by rw[g];simp);obtain⟨a,rfl,_⟩:=jI i _ k [] b q (qk _) J j I C;exact⟨k,a.ar,g,UL i _ k [] b a (qk _) J j I C⟩
 .obtain ⟨b,l,ko,t,p⟩:=K4 h zOm
  obtain⟨k,U,g,C,P⟩:=ur (a:=101) (b:=101) h.1 (by unfold shp;rw[zIn,zIn,if_pos zOm]);rw[g]at t;obtain⟨q,q',rfl,I,R⟩:=exL2 t;have J:=h.1.kid (k:=k) (by rw[g];simp);have T:=h.1.kid (k:=U) (by rw[g];simp);obtain⟨a,rfl,_⟩:=jI i _ k [] b q (qk _) J j I C;obtain⟨a',rfl,_⟩:=jI i _ U [] b q' (qk _) T j R P;have e:a.ar=a'.ar:=by
   unfold zz at p;rw[zIn,zIn,zIn]at p;simp only at p;rw[if_pos zOm]at p;split at p
   .assumption
   .cases p
  exact⟨k,U,a.ar,g,UL i _ k [] b a (qk _) J j I C,by rw[e];exact UL i _ U [] b a' (qk _) T j R P⟩
theorem qcY(g:okCk c){n}(h:Fm c n):TyC (arS c []) n:=by
 refine⟨qcX g h,fun o=>?_⟩;obtain⟨m,i,km⟩:=uu (a:=102) h.1 (by unfold shp;rw[zIn,zIn,zIn,zIn,zIn,if_pos zOm]);exact⟨m,i,qcX g (Vf h zOm (by rw[i];simp) km)⟩
theorem K5:∀ m n g,szN n<=m->Fm c n->Fm c (y6 n g).1/\(y6 n g).1.op≠48
 | 0,n,g,l,_=>by obtain⟨op,nm,i,ks,p⟩:=n;simp[szN]at l
 |m+1,n,g,l,h=>by
  by_cases o:n.op=48
  .obtain ⟨k,j,t⟩:=uu (a:=102) h.1 (by unfold shp;rw[zIn,zIn,zIn,zIn,zIn,if_pos zOm])
   have e:y6 n g=y6 k true:=by
    obtain⟨op,nm,i,ks,p⟩:=n;simp only[Nd.op,Nd.sD]at o j;rw[y6,if_pos o,j,UK]
   rw[e];have:=qZ (n:=n) (k:=k) (by rw[j];simp);exact K5 m k true zOm (Vf h zOm (by rw[j];simp) t)
  .have e:y6 n g=(n,g):=by
    obtain⟨op,nm,i,ks,p⟩:=n;simp only[Nd.op]at o;rw[y6,if_neg o]
   rw[e];exact⟨h,o⟩
theorem Vg(n):conj n=if n.op=41 then (n.sD.map conj).getD 0 []++(n.sD.map conj).getD 1 [] else if n.op=48 then ((n.sD.map conj).getD 0 []).map (jn n.pos) else [n]:=by
 obtain⟨op,nm,i,ks,p⟩:=n;have:∀ ks:List Nd,uO ks=ks.map conj:=fun ks=>by
  induction ks with
  |nil=>rfl
  |cons k ks g=>rw[uO,g];rfl
 rw[conj,this];rfl
def FmA(c:Ck)(n:Nd):Prop:=Fm c n\/(n.op=48/\∃ k,n.sD=[k]/\Fm c k)
theorem qoC(j:okCk c){n}(h:FmA c n)(g):TyC (arS c []) (y6 n g).1:=by
 rcases h with h|⟨o,k,l,h⟩
 .exact qcY j (K5 _ n g (qk _) h).1
 .have e:y6 n g=y6 k true:=by
   obtain⟨op,nm,i,ks,p⟩:=n;simp only[Nd.op,Nd.sD]at o l;rw[y6,if_pos o,l,UK]
  rw[e];exact qcY j (K5 _ k true (qk _) h).1
theorem Jc:∀ m n,szN n<=m->Fm c n->∀ x,x∈conj n->FmA c x
 | 0,n,t,_=>by obtain⟨op,nm,i,ks,p⟩:=n;simp[szN]at t
 |m+1,n,t,h=>fun x g=>by
  rw[Vg]at g;split at g
  .rename_i o
   obtain⟨a,b,j,l,C⟩:=ur (a:=102) (b:=102) h.1 (by unfold shp;rw[zIn,zIn,zIn,zIn,zIn,zIn,if_pos zOm]);rw[j]at g;have I:=qZ (n:=n) (k:=a) (by rw[j];simp);have T:=qZ (n:=n) (k:=b) (by rw[j];simp);simp only[zd,List.map_nil,jh,List.getD_cons_succ]at g;rcases qJ.1 g with g|g
   .exact Jc m a zOm (Vf h zOm (by rw[j];simp) l) x g
   .exact Jc m b zOm (Vf h zOm (by rw[j];simp) C) x g
  split at g
  .rename_i o
   obtain⟨a,j,l⟩:=uu (a:=102) h.1 (by unfold shp;rw[zIn,zIn,zIn,zIn,zIn,if_pos zOm]);rw[j]at g;have I:=qZ (n:=n) (k:=a) (by rw[j];simp);simp only[zd,List.map_nil,jh]at g;obtain⟨y,J,rfl⟩:=qn.1 g;have hf:=Jc m a zOm (Vf h zOm (by rw[j];simp) l) y J;unfold jn;split
   .exact hf
   .rename_i P
    rcases hf with hf|⟨R,_⟩
    .exact .inr ⟨rfl,y,rfl,hf⟩
    .exact absurd R P
  .simp at g;subst g;exact .inl h
theorem qoD{ts}(h:okTS ts){n}(l:WfN n)(o:(jd ts [] n).1=0):TyL (arT ts) (conj n):=fun x p g=>by
 have i:okCk (mkCk ts ts.sT.length):=uo h (qk _);obtain⟨j,t,C⟩:=UY o;exact qoC i (Jc _ n (qk _) ⟨l,qcL l j,false,t,C⟩ x p) g
end
end KG
namespace KT
open Q6 Y1 Y2 Y9 P1 P2 E1 E2 E3 E7 E8 EA KB KE KG
def EnvR(s:Scp)(env:List (dA×Int)):Prop:=∀ nm,(yL nm s=[]/\un nm env=none)\/∃ v r a,yL nm s=v :: r/\v.2.ar=1/\un nm env=some a
theorem EnvR.nil:EnvR [] []:=fun nm => .inl ⟨rfl,rfl⟩
theorem qoE(nm env e):un nm (env++[e])=if e.1=nm then some e.2 else un nm env:=by
 unfold un;rw[uz];rfl
theorem EnvR.bind{s env}(h:EnvR s env)(nm k)(g:k.ar=1)(a):EnvR ((nm,k) :: s) (env++[(nm,a)]):=fun x=>by
 rw[qoE];by_cases e:nm=x
 .exact .inr ⟨(nm,k),s,a,by simp[yL,e],g,zP1 e⟩
 .simp only[yL,e,if_false]
  exact h x
def ArM(x:Mo)(N:Nat):Prop:=∀ s,s<N->∀(i:Nat)(h:i<(x.m.sK.getD s []).length)(g:i<x.ts.sA.length),((x.m.sK.getD s [])[i]).ar=x.ts.sA[i].sS.length
theorem qcZ(nm):∀ fs g,g.length=fs.length->(∀(i h)(l:i<fs.length),g[i].ar=fs[i].sS.length)->(jG fs g nm).map Rl.ar=(zQ fs nm).map Kd.ar
 | [],[],_,_=>rfl
 |f :: fs,r :: g,o,h=>by
  have j:=qcZ nm fs g (zUs o) fun i t l=>h (i+1) zSo zSo
  have p:r.ar=f.sS.length:=h 0 zSp zSp;unfold jG zQ at j⊢;by_cases e:f.name=nm
  .simp [e,j,p,kOf]
  .simpa [e] using j
theorem qc0(x nm):∀ so i,(yH x nm i so).map Rl.ar=(yf i so nm).map Kd.ar
 | [],i=>rfl
 |s :: so,i=>by
  rw[yH,yf,vC,zh,zh,zh,zh,zh,zh,qc0 x nm so (i+1),zE,zE];congr 1
  .split<;>rfl
  congr 1
  .split<;>rfl
  congr 1
  .split<;>rfl
theorem qoF{x N}(I:OkM x N)(J:ArM x N){c}(P:c.ts=x.ts){s p}(o:OkP x N p)(R:EnvR s p.env){nm pos t}(h:yG c s nm pos = .ok t):∃ r k,Zb x p nm = .ok r/\t=some k/\r.ar=k.ar:=by
 unfold yG at h;unfold Zb;rcases R nm with ⟨i,j⟩|⟨v,r,a,i,j,T⟩
 .rw [i]at h
  rw[j];simp only at h⊢;have l:=I.st p.st o.st;have g:(jG x.ts.sA (x.m.sK.getD p.st []) nm++yH x nm 0 x.ts.sS).map Rl.ar=(zM c.ts nm).map Kd.ar:=by
   rw[P,zM,zh,zh,qcZ nm _ _ l.1 (J p.st o.st),qc0]
  cases C:zM c.ts nm with
  |nil=>rw[C]at h;cases h
  |cons k r =>
   rw[C]at h g;cases r with
   |nil =>
    simp only[yJ]at h
    match U:jG x.ts.sA (x.m.sK.getD p.st []) nm++yH x nm 0 x.ts.sS,g with
    | [r],g=>exact⟨r,k,rfl,h.symm,zUs g⟩
    | [],g=>simp at g
    |_ :: _ :: _,g=>simp at g
   |cons=>cases h
 .rw [i]at h
  rw[T];simp only[yJ]at h;exact⟨_,v.2,rfl,h.symm,j.symm⟩
theorem UZ{C i}{g:C->XE i}:∀{l},(∀ a,a∈l->∃ b,g a = .ok b)->∃ r,mapX g l = .ok r
 | [],_=>⟨[],rfl⟩
 |a :: l,h=>by
  obtain⟨b,j⟩:=h a zSp;obtain⟨r,o⟩:=UZ (l:=l) fun x p=>h x (zP1 p)
  exact⟨b :: r,by simp[mapX,j,o,bX]⟩
def NoC(n:Nd):Prop:=anyN (fun n=>decide (n.op=47)) n=false
theorem NoC.kid{n k}(h:NoC n)(g:k∈n.sD):NoC k:=by
 obtain⟨op,nm,i,ks,p⟩:=n;unfold NoC at h⊢;rw[anyN]at h;simp only[Bool.or_eq_false_iff]at h;cases j:anyN (fun n=>decide (n.op=47)) k with
 |false=>rfl
 |true =>
  have:jW (fun n=>decide (n.op=47)) ks=true:=PA.qbR.2 ⟨k,g,j⟩;rw[h.2]at this;cases this
theorem NoC.op{n}(h:NoC n):n.op≠47:=by
 obtain⟨op,nm,i,ks,p⟩:=n;unfold NoC at h;rw[anyN]at h;simp only[Bool.or_eq_false_iff,decide_eq_false_iff_not]at h;exact h.1
def Val(x:Mo)(n:Nd)(p:Pl)(g:Option Kd):Prop:=(kd n.op=101->∃ r k,(den x n).E p = .ok r/\g=some k/\r.ar=k.ar)/\(kd n.op=105->∃ i,(den x n).N p = .ok i)/\(kd n.op=102->∃ b,(den x n).F p = .ok b)
theorem qc1{x N}(hM:OkM x N)(hA:ArM x N){c}(hc:okCk c)(ht:c.ts=x.ts):∀ m n s inn ko p,szN n<=m->WfN n->NoC n->ScOk c.ts.sS.length s->OkP x N p->EnvR s p.env->exam c s inn n = .ok ko->Val x n p ko
 | 0,n,_,_,_,_,hm,_,_,_,_,_,_=>by obtain⟨op,nm,i,ks,p⟩:=n;simp[szN]at hm
 |m+1,n,s,inn,ko,p,hm,hw,hn,R,I,T,h=>by
  have ih:∀{k:Nd},k∈n.sD->∀(s:Scp)(inn:Bool)(ko:Option Kd)(p:Pl),ScOk c.ts.sS.length s->OkP x N p->EnvR s p.env->exam c s inn k = .ok ko->Val x k p ko:=fun {k} g s inn ko p R I T h=>qc1 hM hA hc ht m k s inn ko p (zW1 (qZ g)) (hw.kid g) (hn.kid g) R I T h
  have a8:=I.nx hM;have d0:=wB x n;have aj:=hn.op;rw[jU]at h;split at h
  .cases h
  split at h
  .rename_i o
   obtain⟨r,k,C,e2,U⟩:=qoF hM hA ht I T h;refine⟨fun _=>⟨r,k,?_,e2,U⟩,fun q=>?_,fun q=>?_⟩
   .rw [d0];simp[opD,opE,o,C]
   .rw [o]at q;simp[kd]at q
   .rw [o]at q;simp[kd]at q
  split at h
  .rename_i ob
   obtain⟨a,f,g,J,kf⟩:=ur (a:=101) (b:=102) hw (by unfold shp;rw[zIn,zIn,zIn,if_pos zOm]);have ha:=ih (k:=a) (by rw[g];simp);have hf:=ih (k:=f) (by rw[g];simp);rw[g]at h;simp only[yR]at h;cases hq:exam c s (inn||decide (n.op=15)) a with
   |error e=>rw[hq]at h;cases h
   |ok q =>
    rw[hq]at h;obtain⟨d,k,C,rfl,U⟩:=(ha s _ q p R I T hq).1 J;simp only at h;split at h
    .rename_i k1
     split at h
     .cases h
     .rename_i l P
      simp only[yJ]at h;subst h;obtain⟨q',rfl,aa⟩:=exL1 P;have gd:=Ur hM _ a (qk _) (hw.kid (by rw[g];simp)) p d I C;have ab:okKd c.ts.sS.length k:=by
       obtain⟨k',e,ok⟩:=jI hc _ a s _ _ (qk _) (hw.kid (by rw[g];simp)) R hq J;cases e;exact ok
      have d1:d.ar=1:=U.trans k1;have ad:∃ l,jH [den x a,den x f] n.name p = .ok l:=by
       unfold jH;simp only[kD,jh,List.getD_cons_succ];rw[C];simp only[bX];rw[if_pos d1];refine UZ fun t hT=>?_
       have hv:=gd.val t hT;rw[d1,um]at hv;obtain⟨b,hb⟩:=(hf ((n.name,k) :: s) _ q' ⟨p.st,p.env++[(n.name,t)]⟩ (fun v a6=>by
        rcases qx.1 a6 with rfl|a6
        .exact ⟨ab,k1⟩
        .exact R v a6) (I.bind hv) (T.bind n.name k k1 t) aa).2.2 kf
       exact⟨(t,b),by rw[hb]⟩
      obtain⟨l,a3⟩:=ad;rw[g]at d0;refine⟨fun q=>?_,fun q=>?_,fun q=>?_⟩
      .have o:n.op=15:=by have:=Yr q;omega
       exact⟨_,k,by rw[d0];simp[opD,opE,o,a3,bX];rfl,rfl,k1.symm⟩
      .exfalso;unfold kd at q;omega
      .have o:=K3 q
       rcases (show n.op=45\/n.op=46 by omega) with o|o
       .exact ⟨_,by rw[d0];simp[opD,opF,o,a3,bX];rfl⟩
       .exact ⟨_,by rw[d0];simp[opD,opF,o,a3,bX];rfl⟩
    .cases h
  .rename_i n1 nb
   cases P:zl c s (inn||decide (n.op=12)||decide (n.op=13)) n.sD with
   |error e=>rw[P]at h;cases h
   |ok l =>
    rw[P]at h;simp only at h;refine⟨fun q=>?_,fun q=>?_,fun q=>?_⟩
    .have o:=Yr q
     by_cases o2:n.op=2
     .simp [zz,o2]at h;subst h;exact⟨_,_,by rw[d0];simp[opD,opE,o2];rfl,rfl,rfl⟩
     by_cases o3:n.op=3
     .simp [zz,o3]at h;subst h;exact⟨_,_,by rw[d0];simp[opD,opE,o3];rfl,rfl,rfl⟩
     by_cases o4:n.op=4
     .simp [zz,o4]at h;subst h;exact⟨_,_,by rw[d0];simp[opD,opE,o4];rfl,rfl,rfl⟩
     by_cases u:n.op=5\/n.op=11\/n.op=12\/n.op=13
     .obtain ⟨a,g,J⟩:=uu (a:=101) hw (by unfold shp;rw[zIn,if_pos zOm])
      have ha:=ih (k:=a) (by rw[g];simp);rw[g]at P d0;obtain⟨qa,rfl,j⟩:=exL1 P;by_cases o5:n.op=5
      .obtain ⟨r,k,C,rfl,U⟩:=(ha s _ qa ⟨x.nx p.st,p.env⟩ R a8 T j).1 J
       simp[zz,o5]at h;subst h;exact⟨r,k,by rw[d0];simp[opD,opE,o5,kD,C],rfl,U⟩
      obtain⟨r,k,C,rfl,U⟩:=(ha s _ qa p R I T j).1 J;simp only[zz,if_neg o2,if_neg o3,if_neg o4,if_neg o5,if_pos (show n.op=11\/n.op=12\/n.op=13 by omega)]at h;split at h
      .rename_i k2
       simp only[yJ]at h;subst h;have a9:r.ar=2:=U.trans k2;have gr:=Ur hM _ a (qk _) (hw.kid (by rw[g];simp)) p r I C;have cl:=(aR hM.n0 200 gr a9).2;obtain⟨k',e,ok⟩:=jI hc _ a s _ _ (qk _) (hw.kid (by rw[g];simp)) R j J;cases e;have ck:=(Yp ok k2).2;have hb:binE [den x a] p = .ok r:=by simp[binE,kD,C,bX,a9]
       rcases (show n.op=11\/n.op=12\/n.op=13 by omega) with o|o|o
       .exact ⟨_,_,by rw[d0];simp[opD,opE,o,hb,bX];rfl,rfl,by simp[binK,o,kTr,trR]⟩
       .exact ⟨_,_,by rw[d0];simp[opD,opE,o,hb,bX];rfl,rfl,by simp[binK,o];rw[ck];exact cl⟩
       .exact ⟨_,_,by rw[d0];simp[opD,opE,o,hb,bX];rfl,rfl,by simp[binK,o,kSum,unR];rw[ck];exact cl⟩
      .cases h
     .obtain ⟨a,b,g,J,kb⟩:=ur (a:=101) (b:=101) hw (by unfold shp;rw[zIn,zIn,if_pos zOm])
      have ha:=ih (k:=a) (by rw[g];simp);have hb:=ih (k:=b) (by rw[g];simp);rw[g]at P d0;obtain⟨qa,qb,rfl,j,a0⟩:=exL2 P;obtain⟨r,k,C,rfl,U⟩:=(ha s _ qa p R I T j).1 J;obtain⟨r',k',a4,rfl,a1⟩:=(hb s _ qb p R I T a0).1 kb;simp only[zz,if_neg o2,if_neg o3,if_neg o4]at h;split at h
      .rename_i al
       split at h
       .rename_i ea
        simp only[yJ]at h;subst h;have a2:yh [den x a,den x b] p = .ok (r,r'):=by simp[yh,kD,C,a4,bX,U,a1,ea]
        have a5:(vY n.op k k').ar=k.ar:=by simp only[vY,kSum,JM];grind
        rcases (show n.op=6\/n.op=7\/n.op=8\/n.op=14 by omega) with o|o|o|o
        .exact ⟨_,_,by rw[d0];simp[opD,opE,o,a2,bX];rfl,rfl,by rw[a5];exact U⟩
        .exact ⟨_,_,by rw[d0];simp[opD,opE,o,a2,bX];rfl,rfl,by rw[a5];exact U⟩
        .exact ⟨_,_,by rw[d0];simp[opD,opE,o,a2,bX];rfl,rfl,by rw[a5];exact U⟩
        .exact ⟨_,_,by rw[d0];simp[opD,opE,o,a2,bX];rfl,rfl,by rw[a5,ea];exact a1⟩
       .cases h
      split at h
      .rename_i o
       split at h
       .rename_i hr
        simp only[yJ]at h;subst h;exact⟨_,_,by rw[d0];simp[opD,opE,o,kD,C,a4,bX,jw,U,a1,hr];rfl,rfl,by simp[joR,zG,U,a1]⟩
       .cases h
      split at h
      .rename_i o
       split at h
       .rename_i hr
        simp only[yJ]at h;subst h;exact⟨_,_,by rw[d0];simp[opD,opE,o,kD,C,a4,bX,jT,U,a1,hr];rfl,rfl,by simp[prR,Qv,U,a1]⟩
       .cases h
      .omega
    .have o:20<=n.op/\n.op<=23:=by unfold kd at q;omega
     by_cases ae:n.op=20
     .exact ⟨_,by rw[d0];simp[opD,opN,ae];rfl⟩
     by_cases af:n.op=21
     .obtain ⟨a,g,J⟩:=uu (a:=101) hw (by unfold shp;rw[zIn,if_pos zOm])
      have ha:=ih (k:=a) (by rw[g];simp);rw[g]at P d0;obtain⟨qa,rfl,j⟩:=exL1 P;obtain⟨r,k,C,rfl,U⟩:=(ha s _ qa p R I T j).1 J;exact⟨_,by rw[d0];simp[opD,opN,af,kD,C,bX];rfl⟩
     .obtain ⟨a,b,g,J,kb⟩:=ur (a:=105) (b:=105) hw (by unfold shp;rw[zIn,zIn,zIn,zIn,if_pos zOm])
      have ha:=ih (k:=a) (by rw[g];simp);have hb:=ih (k:=b) (by rw[g];simp);rw[g]at P d0;obtain⟨qa,qb,rfl,j,a0⟩:=exL2 P;obtain⟨u,C⟩:=(ha s _ qa p R I T j).2.1 J;obtain⟨v,e2⟩:=(hb s _ qb p R I T a0).2.1 kb;rcases (show n.op=22\/n.op=23 by omega) with o|o
      .exact ⟨_,by rw[d0];simp[opD,opN,o,kD,C,e2,bX];rfl⟩
      .exact ⟨_,by rw[d0];simp[opD,opN,o,kD,C,e2,bX];rfl⟩
    .have o:=K3 q
     by_cases ag:n.op=30
     .exact ⟨_,by rw[d0];simp[opD,opF,ag];rfl⟩
     by_cases ah:n.op=31
     .exact ⟨_,by rw[d0];simp[opD,opF,ah];rfl⟩
     by_cases u:n.op=34\/n.op=35\/n.op=36\/n.op=37
     .obtain ⟨a,g,J⟩:=uu (a:=101) hw (by unfold shp;rw[zIn,if_pos zOm])
      have ha:=ih (k:=a) (by rw[g];simp);rw[g]at P d0;obtain⟨qa,rfl,j⟩:=exL1 P;obtain⟨r,k,C,rfl,U⟩:=(ha s _ qa p R I T j).1 J;rcases u with o|o|o|o
      .exact ⟨_,by rw[d0];simp[opD,opF,o,kD,C,bX];rfl⟩
      .exact ⟨_,by rw[d0];simp[opD,opF,o,kD,C,bX];rfl⟩
      .exact ⟨_,by rw[d0];simp[opD,opF,o,kD,C,bX];rfl⟩
      .exact ⟨_,by rw[d0];simp[opD,opF,o,kD,C,bX];rfl⟩
     by_cases v:n.op=32\/n.op=33
     .obtain ⟨a,b,g,J,kb⟩:=ur (a:=101) (b:=101) hw (by unfold shp;rw[zIn,zIn,if_pos zOm])
      have ha:=ih (k:=a) (by rw[g];simp);have hb:=ih (k:=b) (by rw[g];simp);rw[g]at P d0;obtain⟨qa,qb,rfl,j,a0⟩:=exL2 P;obtain⟨r,k,C,rfl,U⟩:=(ha s _ qa p R I T j).1 J;obtain⟨r',k',a4,rfl,a1⟩:=(hb s _ qb p R I T a0).1 kb;have ea:k.ar=k'.ar:=by
       unfold zz at h;rw[zIn,zIn,zIn]at h;simp only at h;rw[if_pos zOm]at h;split at h
       .assumption
       .cases h
      have a2:yh [den x a,den x b] p = .ok (r,r'):=by simp[yh,kD,C,a4,bX,U,a1,ea]
      rcases v with o|o
      .exact ⟨_,by rw[d0];simp[opD,opF,o,a2,bX];rfl⟩
      .exact ⟨_,by rw[d0];simp[opD,opF,o,a2,bX];rfl⟩
     by_cases w:n.op=38\/n.op=39
     .obtain ⟨a,b,g,J,kb⟩:=ur (a:=105) (b:=105) hw (by unfold shp;rw[zIn,zIn,zIn,zIn,if_pos zOm])
      have ha:=ih (k:=a) (by rw[g];simp);have hb:=ih (k:=b) (by rw[g];simp);rw[g]at P d0;obtain⟨qa,qb,rfl,j,a0⟩:=exL2 P;obtain⟨u,C⟩:=(ha s _ qa p R I T j).2.1 J;obtain⟨v,e2⟩:=(hb s _ qb p R I T a0).2.1 kb;rcases w with o|o
      .exact ⟨_,by rw[d0];simp[opD,opF,o,kD,C,e2,bX];rfl⟩
      .exact ⟨_,by rw[d0];simp[opD,opF,o,kD,C,e2,bX];rfl⟩
     by_cases y:n.op=40\/n.op=48\/n.op=49\/n.op=50
     .obtain ⟨a,g,J⟩:=uu (a:=102) hw (by unfold shp;rw[zIn,zIn,zIn,zIn,zIn,if_pos zOm])
      have ha:=ih (k:=a) (by rw[g];simp);rw[g]at P d0;obtain⟨qa,rfl,j⟩:=exL1 P;have any:∀ t,t<N->∃ b,(den x a).F ⟨t,p.env⟩ = .ok b:=fun t hT=>(ha s _ qa ⟨t,p.env⟩ R ⟨hT,I.env⟩ T j).2.2 J
      have ai:∃ l,mapX (fun s=>(den x a).F ⟨s,p.env⟩) (x.path p.st) = .ok l:=UZ fun t hT=>by
       obtain⟨k,rfl⟩:=ZT hM.toOkX I.st hT;exact any _ (ZM hM.toOkX I.st k)
      obtain⟨l,a3⟩:=ai;obtain⟨b,hb⟩:=any p.st I.st;obtain⟨b',a7⟩:=any (x.nx p.st) a8.st;rcases y with o|o|o|o
      .exact ⟨!b,by rw[d0];simp[opD,opF,o,kD,hb,bX]⟩
      .exact ⟨_,by rw[d0];simp[opD,opF,o,kD,a3,bX];rfl⟩
      .exact ⟨_,by rw[d0];simp[opD,opF,o,kD,a3,bX];rfl⟩
      .exact ⟨_,by rw[d0];simp[opD,opF,o,kD,a7,bX];rfl⟩
     .obtain ⟨a,b,g,J,kb⟩:=ur (a:=102) (b:=102) hw (by unfold shp;rw[zIn,zIn,zIn,zIn,zIn,zIn,if_pos zOm])
      have ha:=ih (k:=a) (by rw[g];simp);have hb:=ih (k:=b) (by rw[g];simp);rw[g]at P d0;obtain⟨qa,qb,rfl,j,a0⟩:=exL2 P;have any:∀ t,t<N->(∃ b,(den x a).F ⟨t,p.env⟩ = .ok b)/\∃ c,(den x b).F ⟨t,p.env⟩ = .ok c:=fun t hT=>⟨(ha s _ qa ⟨t,p.env⟩ R ⟨hT,I.env⟩ T j).2.2 J,(hb s _ qb ⟨t,p.env⟩ R ⟨hT,I.env⟩ T a0).2.2 kb⟩
      obtain⟨⟨u,C⟩,v,e2⟩:=any p.st I.st;have unt:∀(l:List Nat)(d f:Bool),(∀ t,t∈l->t<N)->∃ b',untX (fun s=>(den x a).F ⟨s,p.env⟩) (fun s=>(den x b).F ⟨s,p.env⟩) l d f = .ok b':=fun l=>by
       induction l with
       |nil=>exact fun d f _=>⟨d,rfl⟩
       |cons t l ih =>
        intro d f hT;obtain⟨⟨u,C⟩,v,e2⟩:=any t (hT t zSp);rw[untX,C,zi,e2,zi];exact ih _ _ fun y hy=>hT y (zP1 hy)
      rcases (show n.op=41\/n.op=42\/n.op=43\/n.op=44\/n.op=51 by omega) with o|o|o|o|o
      .exact ⟨_,by rw[d0];simp[opD,opF,o,kD,C,e2,bX];rfl⟩
      .exact ⟨_,by rw[d0];simp[opD,opF,o,kD,C,e2,bX];rfl⟩
      .exact ⟨_,by rw[d0];simp[opD,opF,o,kD,C,e2,bX];rfl⟩
      .exact ⟨_,by rw[d0];simp[opD,opF,o,kD,C,e2,bX];rfl⟩
      .obtain ⟨b',a7⟩:=unt (x.path p.st) false false fun t hT=>by
        obtain⟨k,rfl⟩:=ZT hM.toOkX I.st hT;exact ZM hM.toOkX I.st k
       exact⟨b',by rw[d0];simp[opD,opF,o,kD,a7]⟩
end KT
namespace KH
end KH
namespace KI
open E3 EA KE
def FixX(x:Mo)(N:Nat):Prop:=∀ s,s<N->∀(i:Nat)(h:i<x.ts.sA.length),x.ts.sA[i].var=false->(x.m.sK.getD s [])[i]?=(x.m.sK.getD 0 [])[i]?
structure NwX (x:Mo) (N:Nat):Prop where
 W:NwS x.ts x.m.sc
 M:OkM x N
 F:FixX x N
 h1:0<N
variable {x:Mo} {N:Nat}
end KI
namespace KJ
open Y1 Y9 P2 E3 E7 E8 EA KA KB KG KI
variable {x:Mo} {N:Nat}
abbrev Tr(x:Mo)(n:Nd)(s:Nat):Prop:=(den x n).F ⟨s,[]⟩ = .ok true
theorem K6{n}(p:WfN n)(o:n.op=48){s}(h:Tr x n s):WfN (kidN n 0)/\n.sD=[kidN n 0]/\∀ t,t∈x.path s->Tr x (kidN n 0) t:=by
 obtain⟨m,g,km⟩:=uu (a:=102) p (by unfold shp;rw[zIn,zIn,zIn,zIn,zIn,if_pos zOm]);have e:kidN n 0=m:=by simp[kidN,g]
 rw[e];refine⟨p.kid (by rw[g];simp),g,?_⟩;unfold Tr at h;rw[wB,g]at h;simp[opD,opF,o,kD]at h;obtain⟨l,P,C⟩:=yA h;simp only[yJ,qY,id]at C;have:∀(T:List Nat)(l:List Bool),mapX (fun s=>(den x m).F ⟨s,[]⟩) T = .ok l->(∀ b,b∈l->b=true)->∀ t,t∈T->Tr x m t:=fun T=>by
  induction T with
  |nil=>intro l _ _ t R;cases R
  |cons t T U =>
   intro l I J y i;rw[mapX]at I;obtain⟨b,f1,f2⟩:=yA I;obtain⟨r,f3,f4⟩:=yA f2;cases f4;rcases qx.1 i with rfl|i
   .unfold Tr;rw[f1,J b zSp]
   .exact U r f3 (fun b j=>J b (zP1 j)) y i
 exact this _ l P C
theorem K7{n m}(o:n.op=48)(j:n.sD=[m]){s}(h:∀ t,t∈x.path s->Tr x m t):Tr x n s:=by
 unfold Tr;rw[wB,j];simp[opD,opF,o,kD];have:∀ T:List Nat,(∀ t,t∈T->Tr x m t)->∃ l,mapX (fun s=>(den x m).F ⟨s,[]⟩) T = .ok l/\l.all id=true:=fun T=>by
  induction T with
  |nil=>intro _;exact⟨[],rfl,rfl⟩
  |cons t T p =>
   intro h;obtain⟨l,g,i⟩:=p fun y C=>h y (zP1 C)
   exact⟨true :: l,by rw[mapX,h t zSp,zi,g,zi],zUs i⟩
 obtain⟨l,g,i⟩:=this _ h;rw[g,zi,<-i]
theorem qoG(X:NwX x N){s}(g:s<N):s∈x.path s:=mY X.M.toOkX g 0
theorem K8(X:NwX x N){s t}(g:s<N)(h:t∈x.path s):t<N:=by
 obtain⟨k,rfl⟩:=ZT X.M.toOkX g h;exact ZM X.M.toOkX g k
theorem U0(X:NwX x N):∀ m n,szN n<=m->WfN n->∀ s,s<N->Tr x n s->∀ y,y∈conj n->Tr x y s
 | 0,n,P,_=>by obtain⟨op,nm,i,ks,p⟩:=n;simp[szN]at P
 |m+1,n,P,C=>fun s I h y g=>by
  rw[Vg]at g;split at g
  .rename_i o
   obtain⟨a,b,j,ka,kb⟩:=ur (a:=102) (b:=102) C (by unfold shp;rw[zIn,zIn,zIn,zIn,zIn,zIn,if_pos zOm]);have la:=qZ (n:=n) (k:=a) (by rw[j];simp);have lb:=qZ (n:=n) (k:=b) (by rw[j];simp);unfold Tr at h;rw[wB,j]at h;simp[opD,opF,o,kD]at h;obtain⟨u,R,e2⟩:=yA h;obtain⟨v,T,J⟩:=yA e2;simp only[yJ,qB]at J;rw[J.1]at R;rw[J.2]at T;rw[j]at g;simp only[zd,List.map_nil,jh,List.getD_cons_succ]at g;rcases qJ.1 g with g|g
   .exact U0 X m a zOm (C.kid (by rw[j];simp)) s I R y g
   .exact U0 X m b zOm (C.kid (by rw[j];simp)) s I T y g
  split at g
  .rename_i o
   obtain⟨w,j,hp⟩:=K6 C o h;generalize kidN n 0=k at *
   have lk:=qZ (n:=n) (k:=k) (by rw[j];simp);rw[j]at g;simp only[zd,List.map_nil,jh]at g;obtain⟨z,hz,rfl⟩:=qn.1 g;have l:=fun t U=>U0 X m k zOm w t (K8 X I U) (hp t U) z hz
   unfold jn;split
   .exact l s (qoG X I)
   .exact K7 rfl rfl l
  .simp at g;subst g;exact h
end KJ
namespace KL
open Y1 Y9 P1 P2 E3 E7 E8 KA KB KG KI KJ
variable {x:Mo} {N:Nat}
theorem qoH(X:NwX x N){s t u}(g:s<N)(i:t∈x.path s)(l:u∈x.path t):u∈x.path s:=by
 obtain⟨j,rfl⟩:=ZT X.M.toOkX g i;obtain⟨k,rfl⟩:=ZT X.M.toOkX (K8 X g i) l;rw[<-Uq];exact mY X.M.toOkX g _
theorem U1(X:NwX x N):∀ m n,szN n<=m->WfN n->(∀ y,y∈conj n->WfN y)->∀ s,s<N->(∀ y,y∈conj n->Tr x y s)->Tr x n s
 | 0,n,hm,_,_=>by obtain⟨op,nm,i,ks,p⟩:=n;simp[szN]at hm
 |m+1,n,hm,I,g=>fun s T h=>by
  rw[Vg]at h g;split at h
  .rename_i o
   rw[if_pos o]at g;obtain⟨a,b,l,ka,kb⟩:=ur (a:=102) (b:=102) I (by unfold shp;rw[zIn,zIn,zIn,zIn,zIn,zIn,if_pos zOm]);have la:=qZ (n:=n) (k:=a) (by rw[l];simp);have lb:=qZ (n:=n) (k:=b) (by rw[l];simp);rw[l]at h g;simp only[zd,List.map_nil,jh,List.getD_cons_succ]at h g;have C:=U1 X m a zOm (I.kid (by rw[l];simp)) (fun y j=>g y (zP1 j)) s T fun y j=>h y (zP1 j)
   have h2:=U1 X m b zOm (I.kid (by rw[l];simp)) (fun y j=>g y (zP1 j)) s T fun y j=>h y (zP1 j)
   unfold Tr;rw[wB,l];simp[opD,opF,o,kD];rw[C,zi,h2,zi];rfl
  split at h
  .rename_i o o'
   rw[if_neg o,if_pos o']at g;obtain⟨k,l,kk⟩:=uu (a:=102) I (by unfold shp;rw[zIn,zIn,zIn,zIn,zIn,if_pos zOm]);have lk:=qZ (n:=n) (k:=k) (by rw[l];simp);rw[l]at h g;simp only[zd,List.map_nil,jh]at h g;have wf:∀ y,y∈conj k->WfN y:=fun y j=>by
    have:=g _ (List.mem_map_of_mem j);unfold jn at this;split at this
    .exact this
    .exact this.kid (by simp[Nd.sD])
   refine K7 o' l fun t ht=>U1 X m k zOm (I.kid (by rw[l];simp)) wf t (K8 X T ht) fun y j=>?_
   have C:=h _ (List.mem_map_of_mem j);have J:=g _ (List.mem_map_of_mem j);unfold jn at C J;split at C
   .rename_i P
    rw[if_pos P]at J;obtain⟨_,R,U⟩:=K6 J P C;exact K7 P R fun u hu=>U u (qoH X T ht hu)
   .rename_i P
    rw[if_neg P]at J;obtain⟨_,R,U⟩:=K6 J rfl C;have e:kidN (.mk 48 ⟨#[]⟩ 0 [y] n.pos) 0=y:=by simp[kidN,Nd.sD]
    rw[e]at U;exact U t ht
  .exact h n zSp
theorem qc2{c n}(h:Fm c n):∀ y,y∈conj n->WfN y:=fun y j=>by
 rcases Jc _ n (qk _) h y j with h|⟨o,k,i,h⟩
 .exact h.1
 .refine .mk y ?_ (fun e=>zOm) fun z g=>?_
  .rw [i]
   simp only[List.length_singleton,zd,List.map_nil];rw[h.2.1];unfold shp;rw[zIn,zIn,zIn,zIn,zIn,if_pos zOm]
  .rw [i]at g
   simp at g;subst g;exact h.1
theorem qoI(X:NwX x N){c n}(h:Fm c n){s}(g:s<N):Tr x n s↔∀ y,y∈conj n->Tr x y s:=
 ⟨fun t=>U0 X _ n (qk _) h.1 s g t,U1 X _ n (qk _) h.1 (qc2 h) s g⟩
theorem qc3:∀ m n,szN n<=m->∀ y,y∈conj n->y.op≠41
 | 0,n,t=>by obtain⟨op,nm,i,ks,p⟩:=n;simp[szN]at t
 |m+1,n,t=>fun y g=>by
  rw[Vg]at g;have get:∀ i z,z∈(n.sD.map conj).getD i []->z.op≠41:=fun i z j=>by
   by_cases l:i<n.sD.length
   .rw [zr,qw (zUs l)]at j
    simp only[Option.getD_some,Zs]at j;exact qc3 m n.sD[i] (zW1 (qZ (qv l))) z j
   .rw [zr,uy (zUs l)]at j
    cases j
  split at g
  .rcases qJ.1 g with g|g
   .exact get 0 y g
   .exact get 1 y g
  split at g
  .obtain ⟨z,j,rfl⟩:=qn.1 g
   unfold jn;split
   .exact get 0 z j
   .simp [Nd.op]
  .rename_i o _
   simp at g;subst g;exact o
end KL
namespace KM
open P1
variable {ts:TS} {sc:Sc} {A:dA->Option Int}
end KM
namespace KN
open P1
variable {ts:TS} {sc:Sc} {A:dA->Option Int}
end KN
namespace KO
end KO
namespace KR
open Y1 P1 YG KA KE
def jZ(ts:TS):List Nd->Except Int (List Nd)
 | [] => .ok []
 |n :: l=>if (zp ts n).2=0 then (match jZ ts l with
   | .ok r => .ok (conj (zp ts n).1++r)
   | .error e => .error e) else .error (zp ts n).2
def fixL(ts:TS)(sc:Sc)(bs:List Bd)(n:Nd):Except Int (List Bd):=match jZ ts (ts.sP.map Prod.snd++[n]) with
 | .error e => .error e
 | .ok l=>match fixN ts sc l (gapL bs+1) bs with
  |none => .error 100
  |some x => .ok x
end KR
namespace GX
open P1 E3 G5 GQ GR
structure MdV (ts:TS) (m:Md):Prop where
 f:Fit9 ts m.sc
 z:uR m.sc=true
 ns:(m.sK.length:Int)=m.sc.sN
 l0:0<=m.loop
 l1:m.loop<m.sK.length
 len:∀ s,s∈m.sK->s.length=ts.sA.length
 ar:∀ s,s∈m.sK->∀(i:Nat)(h:i<s.length)(h2:i<ts.sA.length),s[i].ar=ts.sA[i].sS.length/\s[i].ts.Pairwise (·<·)/\∀ t,t∈s[i].ts->t∈y7 m.sc ts.sA[i].sS
 fix:∀(k:Nat)(h:k<m.sK.length)(h0:0<m.sK.length)(i:Nat)(h1:i<m.sK[k].length)(h3:i<m.sK[0].length)(h2:i<ts.sA.length),ts.sA[i].var=false->m.sK[k][i]=m.sK[0][i]
theorem K9{sc}(h:uR sc=true):sumI sc.sC<=12:=by
 simp_all[uR,qB,decide_eq_true_eq]
end GX
namespace KV
open G5 P1 E1 E2 E3 EA GQ GR GW GX KB KC KE KI
section
variable {ts:TS}
theorem qc4{sc}(F:Fit9 ts sc)(z:uR sc=true):ScN ts sc:=by
 simp only[uR,qB,decide_eq_true_eq,qY]at z;exact⟨F.g,F.ns,fun a i=>(z.2.2.2.1 a i).1⟩
theorem qoJ{sc}(F:Fit9 ts sc)(z:uR sc=true):NwS ts sc:=⟨qc4 F z,K9 z⟩
theorem kc{sc}(F:Fit9 ts sc){f}(hf:f∈ts.sA){r:Rl}(g:r.ar=f.sS.length)(i:zn r.ts)(j:∀ t,t∈r.ts->t∈y7 sc f.sS):GR (sumI sc.sC) r:=by
 have l:=F.f1 f hf;refine⟨zOm,zOm,fun t h=>?_,i⟩;obtain⟨a,b⟩:=qa7 sc _ t (j t h);rw[g,wv zOm zOm];have e:((f.sS.length:Int)).toNat=f.sS.length:=zOm;rw[e];have:0<=sumI sc.sC ^ f.sS.length:=Int.pow_nonneg (zW1 (F.pf hf));omega
theorem qoK{sc bs}(F:Fit9 ts sc)(B:BndV ts sc bs):BdS ts (sumI sc.sC) bs:=
 ⟨⟨B.len,fun i h g=>by
  obtain⟨a,b⟩:=B.lo i h g;have j:=B.so _ (qv h);have hf:=qv g;exact⟨kc F hf a j.1 fun t l=>B.full i h g t (B.sub _ (qv h) t l),kc F hf b j.2 (B.full i h g),a,b⟩⟩,fun x o=>B.sub x o⟩
theorem qoL{m}(V:MdV ts m):OkM ⟨ts,m⟩ m.sK.length:=by
 have S:=qc4 V.f V.z;refine { len:=rfl,nx:=fun t T=>?_,n0:=S.n0,n12:=K9 V.z,st:=fun s p=>?_,at0:=fun i j=>?_ }
 .have h0:=V.l0
  have J:=V.l1;unfold Mo.nx;simp only;split<;>omega
 .have e:m.sK.getD s []=m.sK[s]:=by simp[zr,qw p]
  simp only[e];have o:=qv p;refine⟨V.len _ o,fun r P=>?_⟩;obtain⟨i,j,rfl⟩:=Zt P;have l:i<ts.sA.length:=by rw[<-V.len _ o];exact j
  obtain⟨a,b,c⟩:=V.ar _ o i j l;exact kc V.f (qv l) a b c
 .have g:i<m.sc.sC.length:=by have:=S.ns;simp only at j;omega
  obtain⟨J,l,R⟩:=S.le g;simp only;rw[ju g];exact⟨zOm,l,R⟩
theorem qoM{m}(V:MdV ts m):NwX ⟨ts,m⟩ m.sK.length:=by
 have I:=V.l1;have J:=V.l0;refine⟨qoJ V.f V.z,qoL V,fun s g i j t=>?_,zOm⟩;have l:0<m.sK.length:=zOm;have e:m.sK.getD s []=m.sK[s]:=by simp[zr,qw g]
 have C:m.sK.getD 0 []=m.sK[0]:=by simp[zr,qw l]
 simp only[e,C];have o:i<m.sK[s].length:=by rw[V.len _ (qv g)];exact j
 have p:i<m.sK[0].length:=by rw[V.len _ (qv l)];exact j
 rw[qw o,qw p,V.fix s g l i o p j t]
end
end KV
namespace GY
end GY
namespace GZ
open GF GU
theorem mem_selT(g s f t):t∈selT g s f↔((s:Int),(f:Int),t)∈g:=by
 simp only[selT,qn,jM,qB,decide_eq_true_eq];constructor
 .rintro ⟨⟨a,b,c⟩,⟨h,i,j⟩,rfl⟩
  simp only at i j;subst i j;exact h
 .intro h
  exact⟨_,⟨h,rfl,rfl⟩,rfl⟩
theorem qc5:∀ bs k p t,(p,t)∈zo bs k↔∃(f:Nat) (h:f<bs.length),p=((k+f:Nat):Int)/\t∈Kg bs[f]
 | [],k,p,t=>by simp[zo]
 |b :: bs,k,p,t=>by
  simp only[zo,qJ,YJ,qn,u4,qc5 bs (k+1)];constructor
  .rintro (⟨a,i,rfl,rfl⟩|⟨f,hf,rfl,g⟩)
   .exact ⟨0,zSp,zSp,zUs i⟩
   .exact ⟨f+1,by simpa using hf,zOm,zUs g⟩
  .rintro ⟨f,hf,rfl,g⟩
   cases f with
   |zero=>grind
   |succ f=>grind
end GZ
namespace HA
end HA
namespace HB
end HB
namespace HC
end HC
namespace HD
end HD
namespace IC
open Y9 P1 E1 E3 F2 FD GW GX
theorem qoN(n)(k:Nat)(g:k<=3):powI n k=n ^ k:=by
 unfold powI powN;congr 1;omega
theorem qoO{ts m}(h:okTS ts)(V:MdV ts m):OkMa ⟨ts,m⟩ m.sK.length:=by
 have F:=V.f;have j:=F.g;have l:=K9 V.z;have R:=(F.g.sum m.sc.sC.length).1;rw[q8]at R;refine { len:=rfl,nx:=?_,n0:=by show 0<=sumI m.sc.sC;omega,n12:=l,st:=?_,at0:=?_,gsc:=j,pos:=fun a o=>(j.2 a o).1,al:=F.ns.symm,loop:=V.l0,N1:=zW2 V.ns F.s4,ts:=h }
 .intro t I
  have:=V.l1;have:=V.l0;show (if t+1<m.sK.length then t+1 else m.loop.toNat)<m.sK.length
  grind
 .intro s J
  have hd:m.sK.getD s []=m.sK[s]:=by rw[zr,qw J];rfl
  show (m.sK.getD s []).length=ts.sA.length/\∀ r,r∈m.sK.getD s []->GR (sumI m.sc.sC) r;rw[hd];have P:=qv J;have hl:=V.len _ P;refine⟨hl,fun r hr=>?_⟩;obtain⟨i,p,rfl⟩:=Zt hr;obtain⟨a1,a2,a3⟩:=V.ar _ P i p zOm;have f1:=F.f1 _ (qv (show i<ts.sA.length by omega));refine⟨zOm,zOm,fun t I=>?_,a2⟩;have:=qa7 _ _ t (a3 t I)
  grind [qoN,sumI,Int.pow_nonneg]
 .intro i p
  have C:i<m.sc.sC.length:=by rw[<-F.ns];exact p
  exact ql6 m.sc.sC i (fun a o=>(j.2 a o).1) C
structure Betw (sc:Sc) (vs:List Bool) (bs:List Bd) (N:Nat) (m:Md):Prop where
 sc:m.sc=sc
 lp:∃ k:Nat,k<N/\m.loop=k
 ns:m.sK.length=N
 len:∀ s,s∈m.sK->s.length=bs.length
 rel:∀(k f:Nat)(hk:k<m.sK.length)(hf:f<bs.length)(h2:f<m.sK[k].length),m.sK[k][f].ar=bs[f].lo.ar/\zn m.sK[k][f].ts/\(∀ t,t∈bs[f].lo.ts->t∈m.sK[k][f].ts)/\∀ t,t∈m.sK[k][f].ts->t∈bs[f].up.ts
 fix:∀(k f:Nat)(hk:k<m.sK.length)(h0:0<m.sK.length)(h2:f<m.sK[k].length)(h3:f<m.sK[0].length),vs.getD f true=false->m.sK[k][f]=m.sK[0][f]
end IC
namespace KX
open GS GB GS P1 E1 E3 GF GQ GR GW GX GZ IC
section
variable {bs:List Bd}
def pkAt(g:List Bool)(k:Nat):Bool:=decide (0<g.length)&&g.getD (k % g.length) false
def put1(st:List Rl)(q:Int×Int):List Rl:=st.set q.1.toNat (unR (st.getD q.1.toNat noR) ⟨(st.getD q.1.toNat noR).ar,[q.2]⟩)
def yw(g:List Bool):List (Int×Int)->Nat->List Rl->List Rl
 | [],_,U=>U
 |q :: i,k,U=>yw g i (k+1) (if pkAt g k=true then put1 U q else U)
def mdS(i:List Bool)(bs:List Bd)(g:List Bool)(s:Nat):List Rl:=
 if s=0 then yw g (zo bs 0) 0 (bs.map fun b=>b.lo) else (yw g (zo bs 0) (s*(zo bs 0).length) (bs.map fun b=>b.lo)).mapIdx fun f r=>if i.getD f true=true then r else (yw g (zo bs 0) 0 (bs.map fun b=>b.lo)).getD f noR
def mdM(sc:Sc)(g:List Bool)(bs:List Bd)(i:List Bool)(lp:Int):Md:=⟨sc,(qr sc.sN.toNat).map (mdS g bs i),lp % sc.sN⟩
structure Fl (bs:List Bd) (st:List Rl):Prop where
 l:st.length=bs.length
 r:∀(i:Nat)(h:i<st.length)(h2:i<bs.length),st[i].ar=bs[i].lo.ar/\zn st[i].ts/\(∀ t,t∈bs[i].lo.ts->t∈st[i].ts)/\∀ t,t∈st[i].ts->t∈bs[i].up.ts
theorem U2(j:∀ b,b∈bs->zn b.lo.ts)(l:∀ b,b∈bs->∀ t,t∈b.lo.ts->t∈b.up.ts):Fl bs (bs.map fun b=>b.lo):=
 ⟨zSp,fun i h o=>by
  rw[Zs];have g:=qv o;exact⟨rfl,j _ g,fun t p=>p,l _ g⟩⟩
theorem qoP{st}(F:Fl bs st){q:Int×Int}(o:∃(f:Nat) (h:f<bs.length),q.1=f/\q.2∈bs[f].up.ts):Fl bs (put1 st q):=by
 obtain⟨f,hf,e,p⟩:=o;have g:f<st.length:=by rw[F.l];exact hf
 have C:q.1.toNat=f:=zOm;have I:st.getD f noR=st[f]:=by simp[zr,qw g]
 unfold put1;rw[C,I];refine⟨by rw[List.length_set];exact F.l,fun i h J=>?_⟩;rw[List.getElem_set];by_cases j:f=i
 .subst j
  rw[if_pos rfl];obtain⟨a,b,c,d⟩:=F.r f g hf;refine⟨a,(Za _).1,fun t h=>?_,fun t h=>?_⟩
  .exact ((Za _).2 t).2 (y8 _ (c t h))
  .rcases qJ.1 (((Za _).2 t).1 h) with h|h
   .exact d t h
   .simp only[qQ]at h;subst h;exact p
 .rw [if_neg j]
  exact F.r i (zUs h) J
theorem Vh(i):∀(g:List (Int×Int))(k){st},(∀ q,q∈g->∃(f:Nat) (h:f<bs.length),q.1=f/\q.2∈bs[f].up.ts)->Fl bs st->Fl bs (yw i g k st)
 | [],k,st,_,F=>F
 |q :: g,k,st,h,F=>by
  rw[yw];refine Vh i g (k+1) (fun x j=>h x (qU _ j)) ?_;split
  .exact qoP F (h q (zj ..))
  .exact F
theorem U3(bs):∀ q,q∈zo bs 0->∃(f:Nat) (h:f<bs.length),q.1=f/\q.2∈bs[f].up.ts:=fun q i=>by
 obtain⟨p,t⟩:=q;obtain⟨f,hf,e,g⟩:=(qc5 bs 0 p t).1 i;refine⟨f,hf,zUs e,?_⟩;simp only[Kg,jM]at g;exact g.1
theorem U4(p:∀ b,b∈bs->zn b.lo.ts)(C:∀ b,b∈bs->∀ t,t∈b.lo.ts->t∈b.up.ts)(P g s):Fl bs (mdS P bs g s):=by
 have j:=Vh g (zo bs 0) 0 (U3 bs) (U2 p C);have I:=Vh g (zo bs 0) (s*(zo bs 0).length) (U3 bs) (U2 p C);unfold mdS;split
 .exact j
 .refine ⟨by rw[List.length_mapIdx];exact I.l,fun i h o=>?_⟩
  rw[List.getElem_mapIdx];split
  .exact I.r i (zUs h) o
  .have J:i<(yw g (zo bs 0) 0 (bs.map fun b=>b.lo)).length:=by rw[j.l];exact o
   rw[zr,qw J];exact j.r i J o
theorem qoQ{ts sc}(B:BndV ts sc bs){N:Nat}(hN:sc.sN=N)(h1:1<=N)(g i lp):Betw sc g bs N (mdM sc g bs i lp):=by
 have o:∀ b,b∈bs->zn b.lo.ts:=fun b T=>(B.so b T).1
 have U:sc.sN.toNat=N:=zOm;have t:(mdM sc g bs i lp).sK.length=N:=by simp[mdM,U]
 have p:∀(k:Nat)(h:k<(mdM sc g bs i lp).sK.length),(mdM sc g bs i lp).sK[k]=mdS g bs i k:=fun k h=>by simp[mdM]
 refine⟨rfl,?_,t,fun s C=>?_,fun k f I hf R=>?_,fun k f I h0 R h3 hv=>?_⟩
 .have a:=Int.emod_nonneg lp (b:=sc.sN) zOm
  have b:=Int.emod_lt_of_pos lp (b:=sc.sN) zOm;exact⟨(lp % sc.sN).toNat,zOm,by show lp % sc.sN=_;omega⟩
 .obtain ⟨k,I,rfl⟩:=Zt C
  rw[p];exact(U4 o B.sub g i k).l
 .have F:=U4 o B.sub g i k
  have e:=p k I;have J:f<(mdS g bs i k).length:=by rw[F.l];exact hf
  have:=F.r f J hf;simp only[e];exact this
 .have F0:=Vh i (zo bs 0) 0 (U3 bs) (U2 o B.sub)
  simp only[p];by_cases j:k=0
  .subst j;rfl
  .have hf:f<bs.length:=by
    have:=(U4 o B.sub g i k).l;simp only[p]at R;omega
   have t:f<(yw i (zo bs 0) 0 (bs.map fun b=>b.lo)).length:=by rw[F0.l];exact hf
   simp only[mdS,if_neg j,List.getElem_mapIdx,if_true];have P:g.getD f true=false:=hv;rw[P,if_neg zSp,zr,qw t];rfl
theorem qoR{ts sc}(F:Fit9 ts sc)(z:uR sc=true)(B:BndV ts sc bs){N:Nat}(I:sc.sN=N){m}(h:Betw sc (vsT ts) bs N m):MdV ts m:=by
 obtain⟨k,l,J⟩:=h.lp;have g:=h.sc;refine⟨by rw[g];exact F,by rw[g];exact z,by rw[g,h.ns,I],zOm,by rw[h.ns];omega,fun s o=>by rw[h.len s o,B.len],fun s o i p j=>?_,fun k l P i p R j T=>?_⟩
 .obtain ⟨k,l,rfl⟩:=Zt o
  have C:i<bs.length:=by rw[B.len];exact j
  obtain⟨a,b,c,d⟩:=h.rel k i l C p;exact⟨a.trans (B.lo i C j).1,b,fun t U=>by rw[g];exact B.full i C j t (d t U)⟩
 .refine h.fix k i l P p R ?_
  simp[vsT,zr,qw j,T]
end
end KX
namespace QC
end QC
namespace QD
open YF P1 Y1 Y2
section
variable {x:dA×Bool}{c:List AV}{i:Nat}
def atF(a:Int):List Int->Int
 | []=>a
 |x :: l=>atF (qm.wrap (qm.wrap (4*a)+x)) l
def zs:List AV:=qM 64 (aB false)
def oneC(l:List Int):List AV:=aI l.length :: (if 0<=atF 0 l/\atF 0 l<64 then zs.set (atF 0 l).toNat (aB true) else zs)
structure SetC (c:List AV):Prop where
 len:c.length=65
 sc:∀ x,x∈c->x.one=true/\HF x
theorem SetC.one(h:SetC c):∀ x,x∈c->x.one=true:=fun x g=>(h.sc x g).1
theorem SetC.hf(h:SetC c):HF (.agg c):=HF.agg fun x g=>(h.sc x g).2
theorem SetC.take(h:SetC c):List.take 65 c=c:=zJ (by rw[h.len];omega)
theorem SetC.put{d}(h:SetC c)(g:SetC d):putCells c 0 d=d:=by
 rw[y9 _ _ _ (by rw[h.len,g.len];omega)];simp[h.len,g.len,List.drop_of_length_le]
theorem SetC.zero:SetC (aI 0 :: zs):=⟨rfl,fun x g=>by
 rcases qx.1 g with rfl|g
 .exact ⟨rfl,HF.sc _⟩
 .rw [List.eq_of_mem_replicate g];exact⟨rfl,HF.sc _⟩⟩
theorem SetC.oneC(l):SetC (oneC l):=by
 have i:∀ x:AV,x∈zs->x.one=true/\HF x:=fun x g=>by rw[List.eq_of_mem_replicate g];exact⟨rfl,HF.sc _⟩
 unfold QD.oneC;split
 .refine ⟨by simp[zs],fun x g=>?_⟩
  rcases qx.1 g with rfl|g
  .exact ⟨rfl,HF.sc _⟩
  .rcases List.mem_or_eq_of_mem_set g with h|rfl
   .exact i x h
   .exact ⟨rfl,HF.sc _⟩
 .refine ⟨by simp[zs],fun x g=>?_⟩
  rcases qx.1 g with rfl|g
  .exact ⟨rfl,HF.sc _⟩
  .exact i x g
theorem oneU(l)(hl:l.length<=140737488351232):qh qd 261 [lI l] (.agg (oneC l)):=by
 have g:=SetC.oneC l;generalize I:oneC l=R at *
 unfold oneC at I;refine qSU call261 func261 rfl ?_;have i:zs.length=64:=rfl;refine aP l.length (fun k U=>∃ a:Int,U.tm 0=lI l/\U.tm 2 = .ptr 0 0/\U.tm 3 = .ptr 1 0/\U.tm 4=aI a/\U.tm 5=aI k/\U.mu=[.arr (aI 0 :: zs),.arr (aI l.length :: zs)]/\atF a (l.drop k)=atF 0 l) ?_ ?_
 .exact ⟨0,zSi,zSi,zSi,zSi,zSi,by simp[go_sem,zs,qM],rfl⟩
 rintro k U hk ⟨a,J,t,e3,e4,e5,hm,hI⟩;by_cases P:k<l.length
 .have w1:=zWk k
  rw[ze P]at hI;simp[go_sem,J,e4,e5,hm,P,w1];exact aM ⟨_,zS1 J,zS1 t,zS1 e3,zSi,zSi,zSi,hI⟩
 have a1:k=l.length:=zOm;subst a1;rw[zY]at hI;have ha:a=atF 0 l:=hI;rw[<-ha]at I;have z1:∀ x:AV,(x :: zs).length=65:=fun x=>rfl
 have o:∀ x:AV,x∈zs->x.one=true:=fun x hx=>by rw[List.eq_of_mem_replicate hx];rfl
 have tk:List.take 64 zs=zs:=rfl;have pc:∀(x y:AV)(Z:List AV),Z.length=64->putCells (x :: zs) 0 (y :: Z)=y :: Z:=fun x y Z hZ=>by
  grind [y9,List.drop_of_length_le]
 by_cases h0:0<=a
 .obtain ⟨j,rfl⟩:∃ j:Nat,a=j:=⟨a.toNat,zOm⟩
  by_cases C:(j:Int)<64
  .have hj:1+j<=64:=by omega
   have a2:∀ x:AV,(x :: zs).set (1+j) (AV.sc (Value.bool true))=x :: zs.set j (AV.sc (Value.bool true)):=fun x=>by rw[Nat.add_comm];rfl
   have sl:(zs.set j (AV.sc (Value.bool true))).length=64:=zP1 i;have T:∀ x:AV,x∈zs.set j (AV.sc (Value.bool true))->x.one=true:=fun x hx=>by
    rcases List.mem_or_eq_of_mem_set hx with h|rfl
    .exact o x h
    .rfl
   have a0:List.take 64 (zs.set j (AV.sc (Value.bool true)))=zs.set j (AV.sc (Value.bool true)):=zJ zOm;have p:R=aI l.length :: zs.set j (AV.sc (Value.bool true)):=by rw[<-I,if_pos ⟨h0,C⟩];rfl
   generalize zs.set j (AV.sc (Value.bool true))=Z at *
   simp[go_sem,J,t,e3,e4,e5,hm,h0,C,i,hj,a2,sl,a0,pc _ _ _ sl];rw[if_pos T];simp[go_sem,t,sl,a0];rw[p]at g⊢;exact .hf _ g.hf
  .simp [go_sem,J,t,e3,e4,e5,hm,h0,C,i,tk,pc _ _ _ i]
   rw[if_pos o];simp[go_sem,t,i,tk];have p:R=aI l.length :: zs:=by rw[<-I,zIn]
   rw[p]at g⊢;exact .hf _ g.hf
 .simp [go_sem,J,t,e3,e4,e5,hm,h0,i,tk,pc _ _ _ i]
  rw[if_pos o];simp[go_sem,t,i,tk];have p:R=aI l.length :: zs:=by rw[<-I,zIn]
  rw[p]at g⊢;exact .hf _ g.hf
abbrev NS:=List AV×Nat
variable {s:NS}
def stF(nm:dA)(f:Fld)(s:NS):NS:=if f.name=nm then (oneC f.sS,s.2+1) else s
def nmF(nm:dA):List Fld->NS->NS
 | [],s=>s
 |f :: l,s=>nmF nm l (stF nm f s)
def st1(nm:dA)(i:Nat)(x:dA×Bool)(s:NS):NS:=if x.1=nm then (oneC [(i:Int)],s.2+1) else s
def st2(nm:dA)(i:Nat)(x:dA×Bool)(s:NS):NS:=if x.2=true/\x.1++yM=nm then (oneC [(i:Int)],s.2+1) else s
def st3(nm:dA)(i:Nat)(x:dA×Bool)(s:NS):NS:=if x.2=true/\x.1++jl=nm then (oneC [(i:Int),(i:Int)],s.2+1) else s
def nmS(nm:dA):Nat->List (dA×Bool)->NS->NS
 |_,[],s=>s
 |i,x :: l,s=>nmS nm (i+1) l (st3 nm i x (st2 nm i x (st1 nm i x s)))
def named(ts:TS)(nm:dA):NS:=nmS nm 0 ts.sS (nmF nm ts.sA (aI 0 :: zs,0))
theorem qoS{nm f}(h:SetC s.1):SetC (stF nm f s).1:=by
 grind [stF,SetC.oneC]
theorem qc6{nm}(h:SetC s.1):SetC (st1 nm i x s).1:=by
 grind [st1,SetC.oneC]
theorem qc7{nm}(h:SetC s.1):SetC (st2 nm i x s).1:=by
 grind [st2,SetC.oneC]
theorem qc8{nm}(h:SetC s.1):SetC (st3 nm i x s).1:=by
 grind [st3,SetC.oneC]
theorem st_le{nm}:(st3 nm i x (st2 nm i x (st1 nm i x s))).2<=s.2+3:=by
 have g:(st1 nm i x s).2<=s.2+1:=by grind [st1]
 have j:∀ s:NS,(st2 nm i x s).2<=s.2+1:=fun s=>by grind [st2]
 have l:∀ s:NS,(st3 nm i x s).2<=s.2+1:=fun s=>by grind [st3]
 grind
theorem qc9(nm):∀ l s,SetC s.1->SetC (nmF nm l s).1
 | [],_,h=>h
 |f :: l,s,h=>qc9 nm l _ (qoS h)
theorem qdA(nm):∀ l i s,SetC s.1->SetC (nmS nm i l s).1
 | [],_,_,h=>h
 |x :: l,i,s,h=>qdA nm l _ _ (qc8 (qc7 (qc6 h)))
theorem kg(ts nm):SetC (named ts nm).1:=qdA nm _ _ _ (qc9 nm _ _ SetC.zero)
theorem wk1(i):WK (.lst true [rI i]) (lI [i]):=WK.lst fun r g c j=>by
 grind [qQ,HF.sc]
theorem wk2(i j):WK (.lst true [rI i,rI j]) (lI [i,j]):=WK.lst fun r g c l=>by
 rcases qx.1 g with rfl|g
 .grind [qQ,HF.sc]
 grind [qQ,HF.sc]
structure okNm (ts:TS):Prop where
 so:∀ x,x∈ts.sS->x.1.size<=4611686018427387904
 nso:ts.sS.length<=140737488351232
 nf:ts.sA.length<=140737488351232
 fl:∀ f,f∈ts.sA->f.sS.length<=140737488351232
theorem kh(ts)(ha:okNm ts)(nm):qh qd 215 [eTS ts,aS nm] (.tup [.agg (named ts nm).1,aI (named ts nm).2]):=by
  generalize hR:named ts nm=R;unfold named at hR;refine qSV call215 func215 rfl ?_;have ar:=ha.nf;have au:zs.length=64:=rfl;have av:=ha.nso;simp[go_sem];refine aP ts.sA.length (fun i U=>∃ s:NS,U.tm 1=aS nm/\U.tm 2 = .ip (cTS ts)/\U.tm 4 = .ptr 0 0/\U.tm 6 = .ptr 1 0/\U.tm 7=aI s.2/\U.tm 8=aI i/\U.mu=[.arr (aI 0 :: zs),.arr s.1]/\SetC s.1/\s.2<=i/\nmS nm 0 ts.sS (nmF nm (ts.sA.drop i) s)=R) ?_ ?_
  · exact⟨(aI 0 :: zs,0),zSi,zSi,zSi,zSi,zSi,zSi,by simp[go_sem,zs,qM],SetC.zero,zSp,zUs hR⟩
  clear hR;rintro i U hi ⟨⟨c,k⟩,P,C,e4,T,e7,e8,hm,j,hk,t⟩;have hk:k<=i:=hk;have j:SetC c:=j;by_cases g:i<ts.sA.length
  · have w1:=zWk i
    have w2:=zWk k;rw[ze g]at t;have ho:=oneU ts.sA[i].sS (ha.fl _ (qv g));have I:=SetC.oneC ts.sA[i].sS;by_cases hq:ts.sA[i].name=nm
    · simp[go_sem,P,C,e8,hm,g,hq]
      refine t7 ho (.zk (zx _) .nil) ?_;simp[go_sem,T,I.len,j.len,j.put I];rw[if_pos I.one];simp[go_sem,e7,e8,g,w1,w2];exact aM ⟨(oneC ts.sA[i].sS,k+1),zS1 P,zS1 C,zS1 e4,zS1 T,zSi,zSi,zSi,I,zOm,by grind [nmF,stF]⟩
    · simp[go_sem,P,C,e8,hm,g,jS hq,w1]
      exact aM ⟨(c,k),zS1 P,zS1 C,zS1 e4,zS1 T,by simp[go_sem,e7],zSi,zSi,j,zOm,by grind [nmF,stF]⟩
  have a0:i=ts.sA.length:=zOm;subst a0;rw[zY]at t;simp only[nmF]at t;simp[go_sem,C,e8,hm];refine aP ts.sS.length (fun i U=>∃ s:NS,U.tm 1=aS nm/\U.tm 2 = .ip (cTS ts)/\U.tm 4 = .ptr 0 0/\U.tm 6 = .ptr 1 0/\U.tm 7=aI s.2/\U.tm 9=aI i/\U.mu=[.arr (aI 0 :: zs),.arr s.1]/\SetC s.1/\s.2<=ts.sA.length+3*i/\nmS nm i (ts.sS.drop i) s=R) ?_ ?_
  · simp[go_sem, *]
  clear P C e4 T e7 e8 hm j hk t g;rintro i U hi ⟨⟨c,k⟩,P,C,e4,T,e7,e9,hm,j,hk,t⟩;have hk:k<=ts.sA.length+3*i:=hk;have j:SetC c:=j;by_cases g:i<ts.sS.length
  · have w1:=zWk i
    have w2:=zWk k;have w3:qm.wrap ((k:Int)+1+1)=(k:Int)+1+1:=zWr;have w4:qm.wrap ((k:Int)+1+1+1)=(k:Int)+1+1+1:=zWr;rw[ze g]at t;simp only[nmS]at t;have af:=oneU [(i:Int)] zSp;have ag:=oneU [(i:Int),(i:Int)] zSp;have p:=SetC.oneC [(i:Int)];have J:=SetC.oneC [(i:Int),(i:Int)];have ah:=j.put p;have ai:=j.put J;have aj:=p.put p;have ak:=p.put J;have l1:=p.len;have l2:=J.len;have l0:=j.len;have aw:=st_le (nm:=nm) (i:=i) (x:=ts.sS[i]) (s:=(c,k));have al:=qc8 (nm:=nm) (i:=i) (x:=ts.sS[i]) (qc7 (nm:=nm) (i:=i) (x:=ts.sS[i]) (qc6 (nm:=nm) (i:=i) (x:=ts.sS[i]) (s:=(c,k)) j));have a8:=ha.so _ (qv g);have a8:ts.sS[i].1.size<=4611686018427387904:=a8;generalize a9:ts.sS[i]=so at *
    obtain⟨o,sb⟩:=so;have aa:o.size<=9223372036854775801:=by grind
    have ab:o.size<=9223372036854775802:=zOm;generalize hN:st3 nm i (o,sb) (st2 nm i (o,sb) (st1 nm i (o,sb) (c,k)))=N at *
    have an:(o++yM=nm)=(o++(⟨#[95,102,105,114,115,116]⟩:dA)=nm):=rfl;have ao:(o++jl=nm)=(o++(⟨#[95,110,101,120,116]⟩:dA)=nm):=rfl;simp only[st1,st2,st3,an,ao]at hN;obtain⟨d1,aq⟩:∃ d,decide (o=nm)=d:=⟨_,rfl⟩;obtain⟨d2,ad⟩:∃ d,decide (o++(⟨#[95,102,105,114,115,116]⟩:dA)=nm)=d:=⟨_,rfl⟩;obtain⟨d3,ae⟩:∃ d,decide (o++(⟨#[95,110,101,120,116]⟩:dA)=nm)=d:=⟨_,rfl⟩;have p1:(o=nm)=(d1=true):=by grind
    have p2:(o++(⟨#[95,102,105,114,115,116]⟩:dA)=nm)=(d2=true):=by grind
    have p3:(o++(⟨#[95,110,101,120,116]⟩:dA)=nm)=(d3=true):=by grind
    simp only[p1,p2,p3]at hN;have done:∀ l:St,l.tm 1=aS nm->l.tm 2 = .ip (cTS ts)->l.tm 4 = .ptr 0 0->l.tm 6 = .ptr 1 0->l.tm 7=aI N.2->l.tm 9=aI (i+1:Nat)->l.mu=[.arr (aI 0 :: zs),.arr N.1] ->
        Keep (fun U=>∃ s:NS,U.tm 1=aS nm/\U.tm 2 = .ip (cTS ts)/\U.tm 4 = .ptr 0 0/\U.tm 6 = .ptr 1 0/\U.tm 7=aI s.2/\U.tm 9=aI (i+1:Nat)/\U.mu=[.arr (aI 0 :: zs),.arr s.1]/\SetC s.1/\s.2<=ts.sA.length+3*(i+1)/\nmS nm (i+1) (ts.sS.drop (i+1)) s=R) .mk l:=
      fun l a1 a2 a3 a4 a5 a6 a7=>aM ⟨N,a1,a2,a3,a4,a5,a6,a7,al,zOm,t⟩
    cases d1<;>cases d2<;>cases d3<;>cases sb
    all_goals simp only[if_true,if_false,and_false,and_true,reduceCtorEq]at hN
    all_goals simp[go_sem,Y10.y5,P,C,e9,hm,g,a9,aq,ad,ae,w1,aa,ab]
    all_goals repeat' (first
      | (refine t7 af (.cons (wk1 _) .nil) ?_
         simp[go_sem,T,ah,aj,l0,l1];rw[if_pos p.one];simp[go_sem,Y10.y5,P,C,e7,e9,g,a9,ad,ae,w1,w2,w3,aa,ab])
      | (refine t7 ag (.cons (wk2 _ _) .nil) ?_
         simp[go_sem,T,ai,ak,l0,l1,l2];rw[if_pos J.one];simp[go_sem,e7,e9,g,w1,w2,w3,w4]))
    all_goals try subst hN
    all_goals simp_all[go_sem]
  have a0:i=ts.sS.length:=zOm;subst a0;rw[zY]at t;simp only[nmS]at t;subst t;simp[go_sem,C,e4,T,e7,e9,hm,j.len,j.take,SetC.zero.put j,SetC.zero.len];rw[if_pos j.one];simp[go_sem,e4,j.len,j.take];refine .hf _ (HF.tup fun x hx=>?_);rcases qx.1 hx with rfl|hx
  · exact j.hf
  grind [qQ,HF.sc]
end
end QD
namespace QE
open Y6 QD
abbrev RS:=Int×(Nat->Bool)
def hB(g:Nat->Bool):List AV:=(qr 64).map fun i=>aB (g i)
abbrev cRS(s:RS):List AV:=aI s.1 :: hB s.2
abbrev eRS(s:RS):AV := .agg (cRS s)
theorem qt(g):(hB g).length=64:=by simp[hB]
theorem qdB(g i v):(hB g).set i (aB v)=hB fun j=>if j=i then v else g j:=by
 refine List.ext_getElem (by simp[hB]) fun j l o=>?_
 rw[List.getElem_set];simp only[hB,Zs,List.getElem_range];by_cases h:i=j
 .rw [if_pos h,if_pos h.symm]
 .rw [if_neg h,if_neg (fun e=>h e.symm)]
theorem qoT(g i)(h:i<64):(hB g)[i]?=some (aB (g i)):=by
 simp[hB,h]
theorem uT{g i}(h:∀ j,j<64->g j=i j):hB g=hB i:=by
 refine List.map_congr_left fun j l=>?_
 rw[h j (zK.1 l)]
theorem setC(s):SetC (cRS s):=⟨by simp[hB],fun x g=>by
 rcases qx.1 g with rfl|g
 .exact ⟨rfl,HF.sc _⟩
 .obtain ⟨j,_,rfl⟩:=qn.1 g
  exact⟨rfl,HF.sc _⟩⟩
theorem yI(s):HF (eRS s):=(setC s).hf
theorem qdC:hB (fun _=>false)=zs:=rfl
def oneS(l:List Int):RS:=(l.length,fun j=>decide ((j:Int)=atF 0 l))
theorem ki(l):oneC l=cRS (oneS l):=by
 unfold oneC oneS;simp only[cRS];split
 .rename_i h
  have e:aB true=aB true:=rfl;rw[<-qdC,qdB];congr 1;refine uT fun j i=>?_
  by_cases g:j=(atF 0 l).toNat
  .rw [if_pos g];exact(decide_eq_true zOm).symm
  .rw [if_neg g];exact(decide_eq_false zOm).symm
 .rename_i h
  rw[<-qdC];congr 1;refine uT fun j i=>?_
  exact(decide_eq_false zOm).symm
def szA(k:Int):Nat:=if k<1 then 1 else if k=1 then 4 else if k=2 then 16 else 64
theorem Vi(k):szA k<=64/\1<=szA k:=by unfold szA;split<;>(try split)<;>(try split)<;>omega
theorem U5(k):qh qd 300 [aI k] (aI (szA k)):=by
 refine qSV call300 func300 rfl ?_;unfold szA;by_cases g:k<1
 .simp [go_sem,g];exact .zsc _
 by_cases i:k=1
 .simp [go_sem,i];exact .zsc _
 by_cases j:k=2
 .simp [go_sem,j];exact .zsc _
 simp[go_sem,g,i,j];exact .zsc _
def uniS(a b:RS):RS:=(a.1,fun j=>a.2 j||b.2 j)
def intS(a b:RS):RS:=(a.1,fun j=>a.2 j&&b.2 j)
theorem g1(x g i)(h:i<64):(x :: hB g)[1+i]?=some (aB (g i)):=by
 rw[Nat.add_comm,List.getElem?_cons_succ,qoT g i h]
theorem d1(x g i)(h:i<64):List.take 1 (List.drop (1+i) (x :: hB g))=[aB (g i)]:=by
 rw[Nat.add_comm,List.drop_succ_cons,ze (by rw[qt];exact h)];simp[hB]
theorem d0(g i)(h:i<64):List.take 1 (List.drop i (hB g))=[aB (g i)]:=by
 rw[ze (by rw[qt];exact h)];simp[hB]
theorem s1(x g i v):(x :: hB g).set (1+i) (aB v)=x :: hB fun j=>if j=i then v else g j:=by
 rw[Nat.add_comm,List.set_cons_succ,qdB]
theorem q9(g):∀ x,x∈hB g->x.one=true:=fun x i=>by
 obtain⟨j,_,rfl⟩:=qn.1 i;rfl
theorem tk(g):List.take 64 (hB g)=hB g:=zJ (by rw[qt];exact qk _)
theorem pc(x y g i):putCells (x :: hB g) 0 (y :: hB i)=y :: hB i:=by
 rw[y9 _ _ _ (by simp[qt])];simp[qt,List.drop_of_length_le]
theorem jm(a b):qh qd 281 [eRS a,eRS b] (eRS (uniS a b)):=by
 refine qSQ call281 func281 rfl { mt:=[2] } ?_;simp[go_sem];refine⟨q9 _,q9 _,?_⟩;refine aP 64 (fun i U=>U.tm 2 = .ptr 0 0/\U.tm 3 = .ip (cRS b)/\U.tm 4 = .ptr 1 0/\U.tm 5=aI i/\U.mu=[.arr (aI a.1 :: hB (fun j=>if j<i then a.2 j||b.2 j else a.2 j)),.arr (aI 0 :: hB fun _=>false)]) ?_ ?_
 .exact ⟨zSi,zSi,zSi,zSi,by simp[go_sem];rfl⟩
 rintro i U hi ⟨p,J,I,P,R⟩;by_cases l:i<64
 .have o:(i:Int)<64:=by omega
  have t:1+i<=64:=zOm;have w1:=zWk i;generalize hG:(fun j=>if j<i then a.2 j||b.2 j else a.2 j)=G at *
  have T:G i=a.2 i:=by rw[<-hG];simp
  have g:∀ v:Bool,v=(a.2 i||b.2 i)->(aI a.1 :: hB G).set (1+i) (aB v)=aI a.1 :: hB (fun j=>if j<i+1 then a.2 j||b.2 j else a.2 j):=fun v hv=>by
   rw[s1];congr 2;funext j;rw[<-hG,hv];by_cases h1:j=i
   .subst h1;simp
   .by_cases h2:j<i
    .simp [h1,h2,show j<i+1 by omega]
    .simp [h1,h2,show ¬j<i+1 by omega]
  have C:=d1 (aI a.1) G i l;have m2:=d0 b.2 i l;have a0:1<=64-i:=zOm;rw[T]at C;cases ha:a.2 i with
  |true =>
   rw[ha]at C g;have hn:=g true zSp;simp[go_sem,p,P,R,l,o,t,qt,C,hn,w1];exact aM ⟨zS1 p,zS1 J,zS1 I,zSi,zSi⟩
  |false =>
   rw[ha]at C g;have hn:=g (b.2 i) zSp;simp[go_sem,p,J,P,R,l,o,t,a0,qt,C,m2,hn,w1];exact aM ⟨zS1 p,zS1 J,zS1 I,zSi,zSi⟩
 .have a1:i=64:=by omega
  subst a1;simp[go_sem,p,I,P,R,qt,tk,pc];rw[if_pos (q9 _)];simp[go_sem,I,qt,tk];have e:(aI a.1 :: hB fun j=>if j<64 then a.2 j||b.2 j else a.2 j)=cRS (uniS a b):=by
   exact congrArg (aI a.1 :: ·) (uT fun j hj=>if_pos hj)
  rw[e];exact .hf _ (yI _)
theorem Yu(a b):qh qd 282 [eRS a,eRS b] (eRS (intS a b)):=by
 refine qSQ call282 func282 rfl { mt:=[2] } ?_;simp[go_sem];refine⟨q9 _,q9 _,?_⟩;refine aP 64 (fun i U=>U.tm 2 = .ptr 0 0/\U.tm 3 = .ip (cRS b)/\U.tm 4 = .ptr 1 0/\U.tm 5=aI i/\U.mu=[.arr (aI a.1 :: hB (fun j=>if j<i then a.2 j&&b.2 j else a.2 j)),.arr (aI 0 :: hB fun _=>false)]) ?_ ?_
 .exact ⟨zSi,zSi,zSi,zSi,by simp[go_sem];rfl⟩
 rintro i U hi ⟨p,J,I,P,R⟩;by_cases l:i<64
 .have o:(i:Int)<64:=by omega
  have t:1+i<=64:=zOm;have w1:=zWk i;generalize hG:(fun j=>if j<i then a.2 j&&b.2 j else a.2 j)=G at *
  have T:G i=a.2 i:=by rw[<-hG];simp
  have g:∀ v:Bool,v=(a.2 i&&b.2 i)->(aI a.1 :: hB G).set (1+i) (aB v)=aI a.1 :: hB (fun j=>if j<i+1 then a.2 j&&b.2 j else a.2 j):=fun v hv=>by
   rw[s1];congr 2;funext j;rw[<-hG,hv];by_cases h1:j=i
   .subst h1;simp
   .by_cases h2:j<i
    .simp [h1,h2,show j<i+1 by omega]
    .simp [h1,h2,show ¬j<i+1 by omega]
  have C:=d1 (aI a.1) G i l;have m2:=d0 b.2 i l;have a0:1<=64-i:=zOm;rw[T]at C;cases ha:a.2 i with
  |false =>
   rw[ha]at C g;have hn:=g false zSp;simp[go_sem,p,P,R,l,o,t,qt,C,hn,w1];exact aM ⟨zS1 p,zS1 J,zS1 I,zSi,zSi⟩
  |true =>
   rw[ha]at C g;have hn:=g (b.2 i) zSp;simp[go_sem,p,J,P,R,l,o,t,a0,qt,C,m2,hn,w1];exact aM ⟨zS1 p,zS1 J,zS1 I,zSi,zSi⟩
 .have a1:i=64:=by omega
  subst a1;simp[go_sem,p,I,P,R,qt,tk,pc];rw[if_pos (q9 _)];simp[go_sem,I,qt,tk];have e:(aI a.1 :: hB fun j=>if j<64 then a.2 j&&b.2 j else a.2 j)=cRS (intS a b):=by
   exact congrArg (aI a.1 :: ·) (uT fun j hj=>if_pos hj)
  rw[e];exact .hf _ (yI _)
def trS(a:RS):RS:=(2,fun j=>decide (j<16)&&a.2 (j % 4*4+j / 4))
theorem qdD(a):qh qd 285 [eRS a] (eRS (trS a)):=by
 refine qSU call285 func285 rfl ?_;refine⟨q9 _,?_⟩;refine aP 16 (fun i U=>U.tm 1 = .ip (cRS a)/\U.tm 2 = .ptr 0 0/\U.tm 3 = .ptr 1 0/\U.tm 4=aI i/\U.mu=[.arr (aI 0 :: hB fun _=>false),.arr (aI 2 :: hB (fun j=>decide (j<16/\j % 4*4+j / 4<i)&&a.2 (j % 4*4+j / 4)))]) ?_ ?_
 .exact ⟨zSi,zSi,zSi,zSi,by simp[go_sem];first|rfl|exact⟨rfl,rfl⟩⟩
 rintro i U hi ⟨e1,o,p,e4,t⟩;by_cases C:i<16
 .have l:(i:Int)<16:=by omega
  have w1:=zWk i;obtain⟨q,hq⟩:∃ q:Nat,q=i % 4*4+i / 4:=⟨_,rfl⟩;have a0:q<16:=zOm;have w2:qm.wrap ((i:Int).tmod 4)=((i % 4:Nat):Int):=by
   rw[ui zOm];rw[zWr];omega
  have w3:qm.wrap (qm.wrap ((i:Int).tmod 4*4)+qm.wrap ((i:Int) / 4))=(q:Int):=by
   have x1:qm.wrap ((i:Int) % 4*4)=(i:Int) % 4*4:=zWr;have x2:qm.wrap ((i:Int) / 4)=(i:Int) / 4:=zWr;rw[ui zOm,x1,x2,zWr];omega
  generalize hG:(fun j=>decide (j<16/\j % 4*4+j / 4<i)&&a.2 (j % 4*4+j / 4))=G at *
  have g:(aI 2 :: hB G).set (1+q) (aB (a.2 i))=aI 2 :: hB (fun j=>decide (j<16/\j % 4*4+j / 4<i+1)&&a.2 (j % 4*4+j / 4)):=by
   rw[s1];refine congrArg (aI 2 :: ·) (uT fun j hj=>?_);rw[<-hG];by_cases I:j=q
   .have h2:j % 4*4+j / 4=i:=by omega
    rw[if_pos I,h2,decide_eq_true ⟨zOm,zOm⟩];rfl
   .have h2:¬(j<16/\j % 4*4+j / 4=i):=fun h=>I zOm
    rw[if_neg I];have h3:(j<16/\j % 4*4+j / 4<i+1)=(j<16/\j % 4*4+j / 4<i):=propext ⟨fun h=>⟨h.1,zOm⟩,fun h=>⟨h.1,zOm⟩⟩;rw[show decide (j<16/\j % 4*4+j / 4<i+1)=decide (j<16/\j % 4*4+j / 4<i) from decide_eq_decide.2 (by rw[h3])]
  have m2:=d0 a.2 i zOm;have J:(i:Int)<64:=zOm;have P:1<=64-i:=zOm;simp[go_sem,e1,p,e4,t,C,l,J,P,m2,qt,w1,w3,show (q:Int)<64 by omega,show 1+q<=64 by omega,g];exact aM ⟨zS1 e1,zS1 o,zS1 p,zSi,zSi⟩
 .have R:i=16:=by omega
  subst R;have e:hB (fun j=>decide (j<16/\j % 4*4+j / 4<16)&&a.2 (j % 4*4+j / 4))=hB (trS a).2:=by
   refine uT fun j hj=>?_
   rw[show decide (j<16/\j % 4*4+j / 4<16)=decide (j<16) from decide_eq_decide.2 ⟨fun h=>h.1,fun h=>⟨h,zOm⟩⟩];rfl
  rw[e]at t;have hT:eRS (trS a) = .agg (aI 2 :: hB (trS a).2):=rfl;rw[hT];generalize (trS a).2=T at *
  simp[go_sem,o,p,e4,t,qt,tk,pc];rw[if_pos (q9 _)];simp[go_sem,o,qt,tk];exact .hf _ (yI (2,T))
def Qa(a b:RS)(j:Nat):Bool:=a.2 (j / szA b.1)&&b.2 (j % szA b.1)
def kj(a b:RS):RS:=(a.1+b.1,fun j=>decide (j<szA a.1*szA b.1)&&Qa a b j)
theorem qoU(f:Nat->Bool)(p v)(i:v=f p):∀ j,(if j=p then v else decide (j<p)&&f j)=(decide (j<p+1)&&f j):=fun j=>by
 by_cases g:j=p
 .subst g;simp[i]
 .rw [if_neg g,show decide (j<p+1)=decide (j<p) from decide_eq_decide.2 zOm]
theorem qdE(a b)(ha:0<=a.1/\a.1<=1000)(hb:0<=b.1/\b.1<=1000):qh qd 284 [eRS a,eRS b] (eRS (kj a b)):=by
 refine qSV call284 func284 rfl ?_;have w0:qm.wrap (a.1+b.1)=a.1+b.1:=zWr;have ag:=Vi a.1;have ah:=Vi b.1;have ca:=U5 a.1;have cb:=U5 b.1;have hf:∀ j,Qa a b j=(a.2 (j / szA b.1)&&b.2 (j % szA b.1)):=fun _=>rfl
 simp[go_sem,qt];refine⟨q9 _,q9 _,?_⟩;simp[go_sem,w0];refine t7 cb (.zs .nil) ?_;generalize hE:kj a b=E;have aa:E=(a.1+b.1,fun j=>decide (j<szA a.1*szA b.1)&&Qa a b j):=hE.symm;clear hE;generalize Qa a b=F at *
 generalize szA a.1=sa at *
 generalize szA b.1=n at *
 simp[go_sem];refine aP sa (fun i U=>U.tm 2 = .ip (cRS a)/\U.tm 3 = .ip (cRS b)/\U.tm 4 = .ptr 0 0/\U.tm 5 = .ptr 1 0/\U.tm 6=aI n/\U.tm 7=aI i/\U.mu=[.arr (aI 0 :: hB fun _=>false),.arr (aI (a.1+b.1) :: hB (fun j=>decide (j<i*n)&&F j))]) ?_ ?_
 .exact ⟨zSi,zSi,zSi,zSi,zSi,zSi,by simp[go_sem];first|rfl|exact⟨rfl,rfl⟩⟩
 rintro i U hi ⟨l,C,J,P,o,e7,R⟩;simp[go_sem,l,e7,R];refine t7 ca (.zs .nil) ?_;by_cases a7:i<sa
 .have w1:=zWk i
  simp[go_sem,a7];refine aP n (fun k U=>U.tm 2 = .ip (cRS a)/\U.tm 3 = .ip (cRS b)/\U.tm 4 = .ptr 0 0/\U.tm 5 = .ptr 1 0/\U.tm 6=aI n/\U.tm 7=aI i/\U.tm 8=aI k/\U.mu=[.arr (aI 0 :: hB fun _=>false),.arr (aI (a.1+b.1) :: hB (fun j=>decide (j<i*n+k)&&F j))]) ?_ ?_
  .exact ⟨zS1 l,zS1 C,zS1 J,zS1 P,zS1 o,by simp[go_sem,e7],zSi,zSi⟩
  clear l C J P o e7 R;rintro k U hk ⟨l,C,J,P,o,e7,e8,R⟩;by_cases t:k<n
  .have w2:=zWk k
   obtain⟨p,hp⟩:∃ p:Nat,p=i*n+k:=⟨_,rfl⟩;have a8:((i:Int)*n+k)=(p:Int):=by rw[hp];push_cast;rfl
   have ai:i*n<=63*64:=Nat.mul_le_mul zOm zOm;have w3:qm.wrap ((i:Int)*n)=(i:Int)*n:=by
    have:((i*n:Nat):Int)=(i:Int)*n:=by push_cast;rfl
    rw[<-this];exact zWr
   have w4:qm.wrap (p:Int)=(p:Int):=zWr;have a3:F p=(a.2 i&&b.2 k):=by
    rw[hf,hp,Nat.add_comm,Nat.add_mul_div_right _ _ zOm,Nat.add_mul_mod_self_right,Nat.div_eq_of_lt t,Nat.mod_eq_of_lt t,Nat.zero_add]
   have m1:=d0 a.2 i zOm;have m2:=d0 b.2 k zOm;have a0:1<=64-i:=zOm;have a4:1<=64-k:=zOm;have a1:(i:Int)<64:=zOm;have a5:(k:Int)<64:=zOm;have hq:∀ x:AV,(x :: hB (fun j=>decide (j<p)&&F j)).set (1+p) (aB true)=x :: hB (fun j=>if j=p then true else decide (j<p)&&F j):=fun x=>s1 x _ p true
   rw[<-hp]at R;have ab:F p=true->(fun j=>if j=p then true else decide (j<p)&&F j)=(fun j=>decide (j<p+1)&&F j):=fun h=>funext (qoU F p true h.symm)
   have ad:F p=true->∀ x:AV,(x :: hB (fun j=>decide (j<p)&&F j)).set (1+p) (AV.sc (Value.bool true))=x :: hB (fun j=>decide (j<p+1)&&F j):=fun h x=>by rw[<-ab h];exact hq x
   have a6:(F p=false\/64<=p)->hB (fun j=>decide (j<p)&&F j)=hB (fun j=>decide (j<p+1)&&F j):=fun h=>uT fun j hj=>by
    by_cases h1:j=p
    .rcases h with h|h
     .rw [h1,h];simp
     .omega
    .rw [show decide (j<p+1)=decide (j<p) from decide_eq_decide.2 zOm]
   have done:∀ g:St,g.tm 2 = .ip (cRS a)->g.tm 3 = .ip (cRS b)->g.tm 4 = .ptr 0 0->g.tm 5 = .ptr 1 0->g.tm 6=aI n->g.tm 7=aI i->g.tm 8=aI (k+1:Nat)->g.mu=[.arr (aI 0 :: hB fun _=>false),.arr (aI (a.1+b.1) :: hB (fun j=>decide (j<p+1)&&F j))]->Keep (fun U=>U.tm 2 = .ip (cRS a)/\U.tm 3 = .ip (cRS b)/\U.tm 4 = .ptr 0 0/\U.tm 5 = .ptr 1 0/\U.tm 6=aI n/\U.tm 7=aI i/\U.tm 8=aI (k+1:Nat)/\U.mu=[.arr (aI 0 :: hB fun _=>false),.arr (aI (a.1+b.1) :: hB (fun j=>decide (j<i*n+(k+1))&&F j))]) .mk g:=
    fun g b1 b2 b3 b4 b5 b6 b7 b8=>aM ⟨b1,b2,b3,b4,b5,b6,b7,by rw[b8,hp];rfl⟩
   cases I:a.2 i with
   |false =>
    rw[I]at m1;simp[go_sem,l,o,e7,e8,R,t,qt,m1,a0,a1,w2];exact done _ (zS1 l) (zS1 C) (zS1 J) (zS1 P) (zS1 o) (by simp[go_sem,e7]) zSi (by simp[go_sem,a6 (.inl (by rw[a3,I];rfl))])
   |true =>
    rw[I]at m1;cases a2:b.2 k with
    |false =>
     rw[a2]at m2;simp[go_sem,l,C,o,e7,e8,R,t,qt,m1,m2,a0,a4,a1,a5,w2];exact done _ (zS1 l) (zS1 C) (zS1 J) (zS1 P) (zS1 o) (by simp[go_sem,e7]) zSi (by simp[go_sem,a6 (.inl (by rw[a3,I,a2];rfl))])
    |true =>
     rw[a2]at m2;by_cases a9:(p:Int)<64
     .simp [go_sem,l,C,P,o,e7,e8,R,t,qt,m1,m2,a0,a4,a1,a5,w2,w3,a8,w4,a9,show 1+p<=64 by omega,ad (by rw[a3,I,a2];rfl)]
      exact done _ (zS1 l) (zS1 C) (zS1 J) (zS1 P) (zS1 o) (by simp[go_sem,e7]) zSi zSi
     .simp [go_sem,l,C,o,e7,e8,R,t,qt,m1,m2,a0,a4,a1,a5,w2,w3,a8,w4,a9]
      exact done _ (zS1 l) (zS1 C) (zS1 J) (zS1 P) (zS1 o) (by simp[go_sem,e7]) zSi (by simp[go_sem,a6 (.inr zOm)])
  .have ae:k=n:=by omega
   subst ae;rw[show i*k+k=(i+1)*k by rw[Nat.add_mul,Nat.one_mul]]at R;simp[go_sem,o,e7,e8,R,w1];exact⟨a7,aM ⟨zS1 l,zS1 C,zS1 J,zS1 P,zS1 o,zSi,zSi⟩⟩
 .have af:i=sa:=by omega
  subst af;rw[aa];generalize (fun j=>decide (j<i*n)&&F j)=T at *
  simp[go_sem,J,P,qt,tk,pc];rw[if_pos (q9 _)];simp[go_sem,J,qt,tk];exact .hf _ (yI (_,T))
def rowJ(a b:RS)(i g j:Nat):Bool:=(qr g).any fun k=>decide (i / 4*(szA b.1 / 4)+k % (szA b.1 / 4)=j)&&(decide (i % 4=k / (szA b.1 / 4))&&(a.2 i&&b.2 k))
def ZX(a b:RS):RS:=(a.1+b.1-2,fun j=>(qr (szA a.1)).any fun i=>rowJ a b i (szA b.1) j)
theorem qoV(a b i k j):rowJ a b i (k+1) j=(rowJ a b i k j||(decide (i / 4*(szA b.1 / 4)+k % (szA b.1 / 4)=j)&&(decide (i % 4=k / (szA b.1 / 4))&&(a.2 i&&b.2 k)))):=by
 unfold rowJ;rw[List.range_succ,List.any_append];simp
theorem qoW{k}(h:1<=k):4<=szA k:=by unfold szA;split<;>(try split)<;>(try split)<;>omega
theorem uL(a b)(ha:0<=a.1/\a.1<=1000)(hb:1<=b.1/\b.1<=1000):qh qd 283 [eRS a,eRS b] (eRS (ZX a b)):=by
 refine qSV call283 func283 rfl ?_;have w0:qm.wrap (a.1+b.1)=a.1+b.1:=zWr;have ab:qm.wrap (a.1+b.1-2)=a.1+b.1-2:=zWr;have aj:=Vi a.1;have ak:=Vi b.1;have al:=qoW hb.1;have ca:=U5 a.1;have cb:=U5 b.1;have hR:∀ i k j,rowJ a b i (k+1) j=(rowJ a b i k j||(decide (i / 4*(szA b.1 / 4)+k % (szA b.1 / 4)=j)&&(decide (i % 4=k / (szA b.1 / 4))&&(a.2 i&&b.2 k)))):=qoV a b;have ad:∀ i j,rowJ a b i 0 j=false:=fun i j=>rfl
 simp[go_sem,qt];refine⟨q9 _,q9 _,?_⟩;simp[go_sem,w0,ab];refine t7 cb (.zs .nil) ?_;generalize hE:ZX a b=E;have ae:E=(a.1+b.1-2,fun j=>(qr (szA a.1)).any fun i=>rowJ a b i (szA b.1) j):=hE.symm;clear hE;generalize rowJ a b=F at *
 generalize szA a.1=sa at *
 generalize szA b.1=sb at *
 obtain⟨n,hn⟩:∃ n:Nat,n=sb / 4:=⟨_,rfl⟩;have an:1<=n/\n<=16:=zOm;have wn:qm.wrap ((sb:Int) / 4)=(n:Int):=by rw[zWr];omega
 rw[<-hn]at hR;simp[go_sem,wn];refine aP sa (fun i U=>U.tm 2 = .ip (cRS a)/\U.tm 3 = .ip (cRS b)/\U.tm 4 = .ptr 0 0/\U.tm 5 = .ptr 1 0/\U.tm 6=aI n/\U.tm 7=aI i/\U.mu=[.arr (aI 0 :: hB fun _=>false),.arr (aI (a.1+b.1-2) :: hB (fun j=>(qr i).any fun i=>F i sb j))]) ?_ ?_
 .exact ⟨zSi,zSi,zSi,zSi,zSi,zSi,by simp[go_sem];first|rfl|exact⟨rfl,rfl⟩⟩
 rintro i U hi ⟨l,o,C,I,t,e7,hm⟩;simp[go_sem,l,e7,hm];refine t7 ca (.zs .nil) ?_;by_cases a9:i<sa
 .have w1:=zWk i
  generalize hP:(fun j=>(qr i).any fun i=>F i sb j)=P at *
  simp[go_sem,a9];refine aP sb (fun k U=>U.tm 2 = .ip (cRS a)/\U.tm 3 = .ip (cRS b)/\U.tm 4 = .ptr 0 0/\U.tm 5 = .ptr 1 0/\U.tm 6=aI n/\U.tm 7=aI i/\U.tm 8=aI k/\U.mu=[.arr (aI 0 :: hB fun _=>false),.arr (aI (a.1+b.1-2) :: hB (fun j=>P j||F i k j))]) ?_ ?_
  .exact ⟨zS1 l,zS1 o,zS1 C,zS1 I,zS1 t,by simp[go_sem,e7],zSi,zS1 ad⟩
  clear l o C I t e7 hm;rintro k U hk ⟨l,o,C,I,t,e7,e8,hm⟩;simp[go_sem,o,e8,hm];refine t7 cb (.zs .nil) ?_;by_cases J:k<sb
  .have w2:=zWk k
   obtain⟨p,hp⟩:∃ p:Nat,p=i / 4*n+k % n:=⟨_,rfl⟩;have ao:k % n<n:=Nat.mod_lt _ zOm;have aq:i / 4*n<=15*16:=Nat.mul_le_mul zOm zOm;have y1:((i / 4:Nat):Int)=(i:Int) / 4:=zOm;have y2:((i / 4*n:Nat):Int)=(i:Int) / 4*n:=by rw[<-y1];push_cast;rfl
   have y3:((k % n:Nat):Int)=(k:Int) % n:=rfl;have y4:((k / n:Nat):Int)=(k:Int) / n:=rfl;have af:k / n<=64:=zH (Nat.div_le_self k n) zOm;have x1:qm.wrap ((i:Int) / 4)=(i:Int) / 4:=zWr;have x2:qm.wrap ((i:Int) / 4*n)=(i:Int) / 4*n:=by rw[<-y2];exact zWr
   have x4:qm.wrap ((i:Int) / 4*n+(k:Int) % n)=(p:Int):=by rw[<-y2,<-y3,zWr,hp];push_cast;rfl
   have a8:qm.wrap ((i:Int) / 4*n+(k:Int).tmod n)=(p:Int):=by rw[ui zOm];exact x4
   have x5:qm.wrap ((k:Int) / n)=(k:Int) / n:=by
    rw[<-y4];clear y4;generalize k / n=c at af⊢;exact zWr
   have R:¬n=0:=zOm;have m1:=d0 a.2 i zOm;have m2:=d0 b.2 k zOm;have a0:1<=64-i:=zOm;have a2:1<=64-k:=zOm;have a1:(i:Int)<64:=zOm;have a3:(k:Int)<64:=zOm;have a4:((decide (i % 4=k / n)&&(a.2 i&&b.2 k))=false\/64<=p)->hB (fun j=>P j||F i k j)=hB (fun j=>P j||F i (k+1) j):=fun h=>uT fun j hj=>by
    rw[hR,<-hp];rcases h with h|h
    .rw [h,Bool.and_false,Bool.or_false]
    .rw [decide_eq_false zOm,Bool.false_and,Bool.or_false]
   have ag:(decide (i % 4=k / n)&&(a.2 i&&b.2 k))=true->∀ x:AV,(x :: hB (fun j=>P j||F i k j)).set (1+p) (AV.sc (Value.bool true))=x :: hB (fun j=>P j||F i (k+1) j):=fun h x=>by
    refine(s1 x _ p true).trans (congrArg (x :: ·) (uT fun j hj=>?_));rw[hR,<-hp,h,Bool.and_true];by_cases h1:j=p
    .rw [if_pos h1,h1];simp
    .rw [if_neg h1,decide_eq_false (fun e=>h1 e.symm),Bool.or_false]
   have done:∀ g:St,g.tm 2 = .ip (cRS a)->g.tm 3 = .ip (cRS b)->g.tm 4 = .ptr 0 0->g.tm 5 = .ptr 1 0->g.tm 6=aI n->g.tm 7=aI i->g.tm 8=aI (k+1:Nat)->g.mu=[.arr (aI 0 :: hB fun _=>false),.arr (aI (a.1+b.1-2) :: hB (fun j=>P j||F i (k+1) j))]->Keep (fun U=>U.tm 2 = .ip (cRS a)/\U.tm 3 = .ip (cRS b)/\U.tm 4 = .ptr 0 0/\U.tm 5 = .ptr 1 0/\U.tm 6=aI n/\U.tm 7=aI i/\U.tm 8=aI (k+1:Nat)/\U.mu=[.arr (aI 0 :: hB fun _=>false),.arr (aI (a.1+b.1-2) :: hB (fun j=>P j||F i (k+1) j))]) .mk g:=
    fun g b1 b2 b3 b4 b5 b6 b7 b8=>aM ⟨b1,b2,b3,b4,b5,b6,b7,b8⟩
   cases a5:a.2 i with
   |false =>
    rw[a5]at m1;simp[go_sem,l,t,e7,e8,J,qt,x1,x2,R,m1,a0,a1,w2];exact done _ (zS1 l) (zS1 o) (zS1 C) (zS1 I) (zS1 t) (by simp[go_sem,e7]) zSi (by simp[go_sem,a4 (.inl (by rw[a5];simp))])
   |true =>
    rw[a5]at m1;cases a6:b.2 k with
    |false =>
     rw[a6]at m2;simp[go_sem,l,o,t,e7,e8,J,qt,x1,x2,R,m1,m2,a0,a1,a2,a3,w2];exact done _ (zS1 l) (zS1 o) (zS1 C) (zS1 I) (zS1 t) (by simp[go_sem,e7]) zSi (by simp[go_sem,a4 (.inl (by rw[a6];simp))])
    |true =>
     rw[a6]at m2;by_cases hq:i % 4=k / n
     .have a7:(i:Int).tmod 4=(k:Int) / n:=by rw[ui zOm,<-y4,<-hq];rfl
      by_cases aa:(p:Int)<64
      .simp [go_sem,l,o,I,t,e7,e8,J,qt,x1,x2,a8,x5,R,m1,m2,a0,a1,a2,a3,w2,a7,aa,show 1+p<=64 by omega,ag (by rw[decide_eq_true hq,a5,a6];rfl)]
       exact done _ (zS1 l) (zS1 o) (zS1 C) (zS1 I) (zS1 t) (by simp[go_sem,e7]) zSi zSi
      .simp [go_sem,l,o,t,e7,e8,J,qt,x1,x2,a8,x5,R,m1,m2,a0,a1,a2,a3,w2,a7,aa]
       exact done _ (zS1 l) (zS1 o) (zS1 C) (zS1 I) (zS1 t) (by simp[go_sem,e7]) zSi (by simp[go_sem,a4 (.inr zOm)])
     .have a7:¬(i:Int).tmod 4=(k:Int) / n:=fun e=>hq (by rw[ui zOm,<-y4]at e;exact Int.ofNat.inj e)
      simp[go_sem,l,o,t,e7,e8,J,qt,x1,x2,a8,x5,R,m1,m2,a0,a1,a2,a3,w2,a7];exact done _ (zS1 l) (zS1 o) (zS1 C) (zS1 I) (zS1 t) (by simp[go_sem,e7]) zSi (by simp[go_sem,a4 (.inl (by rw[decide_eq_false hq];rfl))])
  .have ah:k=sb:=by omega
   subst ah;simp[go_sem,e7,w1];exact⟨a9,aM ⟨zS1 l,zS1 o,zS1 C,zS1 I,zS1 t,zSi,by simp[go_sem];rw[<-hP]⟩⟩
 .have ai:i=sa:=by omega
  subst ai;rw[ae];generalize (fun j=>(qr i).any fun i=>F i sb j)=T at *
  simp[go_sem,C,I,qt,tk,pc];rw[if_pos (q9 _)];simp[go_sem,C,qt,tk];exact .hf _ (yI (_,T))
end QE
end Go.Proofs.YthflbhjlkgdafaaGreatDoor
