/-
  Own library, part 4: an abstract reading of values and a calculus over it; contracts of functions; plain lemmas.
-/
import Derived.Test.YthkdjhkmlmjkbaaGreatDoorMc
set_option linter.unusedVariables false
set_option linter.unusedSimpArgs false
set_option maxRecDepth 100000
open Go renaming Value->j3,World->j2,Program->qf,FuncId->us
open Go.Proofs.Tryz renaming prog->qb
open Bool renaming and_eq_true->qi
open Option.some renaming injEq->qj
open List renaming range->qm,getElem?_eq_some_iff->qn,getElem_mem->qo,mem_cons->qp,getElem?_eq_getElem->qq,mem_map->qs,all_eq_true->qu,mem_cons_of_mem->qJ,mem_append->qR,getD_eq_getElem?_getD->qS,getElem?_append_left->qT,mem_singleton->qV,mem_of_getElem?->qY,getElem?_map->qZ,mem_cons_self->q8,not_mem_nil->zb,length_append->zc,replicate->zd,take_of_length_le->zi,getElem?_append_right->zo,take_length->zt,drop_eq_getElem_cons->zH,getElem_of_mem->zX,mem_range->zY,length_cons->zZ,map_append->yv,length_map->yP,drop_length->yQ,cons_append->yS,getElem?_eq_none->je,mem_of_mem_take->jg,getElem?_set_ne->jK,mem_filter->jL,length_take->vM,take_succ_eq_append_getElem->ua,take_append_drop->uN,mem_flatMap->Jf,foldl_append->UO
open Nat renaming le_refl->qr,zero_add->yw,lt_succ_iff_lt_or_eq->jf
open Go.IntKind renaming i64->qx
open Option renaming map_some->qU,map_eq_some_iff->zW
open Classical renaming byContradiction->yR
open Except.ok renaming injEq->jP
open Int renaming mul_le_mul->ub,tmod_eq_emod_of_nonneg->uO
namespace Go.Proofs.YthkdjhkmlmjkbaaGreatDoor
open Go Go.Ev Go.Proofs Tryz
namespace EY
open EO
theorem XP(p:List Int)(C:p.length<=1000000000):qd qb 71 [lI p] (lI p):=by
 refine qSV call71 func71 rfl ?_;cases p with
 |nil =>
  simp[go_sem,lI];refine⟨.wk _ true _ (.hf _ (HF.lst (full:=true) (xs:=[]) fun r j=>by simp at j)),?_⟩;refine aA (e:=3) (bt:=8) (z:=0) (l:=[]) (ys:=[]) zSi zSi zSi zOm (.inl ⟨rfl,rfl⟩) (by simp[qE]) zSp ?_;intro P g i _ _ _;simp[go_sem];exact i.v.rd
 |cons x l =>
  simp[go_sem,lI];refine aA (e:=3) (bt:=8) (z:=0) (l:=[]) (ys:=x :: l) zSi zSi zSi zOm (.inl ⟨rfl,rfl⟩) (by simp[qE]) (by grind) ?_;intro P g i _ _ _;simp[go_sem];exact i.v.rd
end EY
namespace GD
open E3 E4 F1 GA GB
section
variable {C:Type}{p:C->C->Bool}
theorem uD(xs:List Int):(xs.map rI).flatten=xs.map aI:=by
 induction xs with
 |nil=>rfl
 |cons x xs g=>simp[g]
theorem VH{G:Gh}{h:Array Obj}{xs:List Int}{v:j3}(r:VRel G h (lI xs) v):xs=[]/\(∃ a c,v = .slice a 0 c)\/xs≠[]/\∃ b off c arr e o,v = .slice (some ⟨b,off,none⟩) xs.length c/\h[b]?=some (.cells arr e o)/\∀ j,j<xs.length->arr[off+j]?=some (.int .i64 (xs.getD j 0)):=by
 by_cases P:xs=[]
 .subst P
  refine .inl ⟨rfl,?_⟩;change VRel G h (.lst false []) v at r;cases r with
  |nil=>exact⟨_,_,rfl⟩
  |emp _ a cap p=>exact⟨_,_,rfl⟩
  |lst _ _ sz a cap R e o rd t C hl p hi hz I T=>exact⟨_,_,rfl⟩
 .refine .inr ⟨P,?_⟩
  change VRel G h (.lst false (xs.map rI)) v at r;generalize J:xs.map rI=l at r;have g:l.length=xs.length:=by grind
  cases r with
  |nil=>grind
  |emp _ a cap p=>grind
  |lst _ _ sz a cap R e o rd t C hl p hi hz I T =>
   obtain⟨b,off,U⟩:=a;simp only at C t I;subst C;refine⟨b,off,cap,R,e,o,by rw[g],t,fun j hj=>?_⟩;have i:l.flatten[j]?=some (aI (xs.getD j 0)):=by
    rw[<-J];have:(xs.map rI).flatten=xs.map aI:=uD xs
    grind
   have h1:=I j _ i;have h2:=T j _ i;generalize rd j=u at h1 h2;cases h2;exact h1
def z7(xs:List Int)(x:Int):Nat:=xs.countP (fun y=>decide (y<x))
theorem binU(xs:List Int)(x:Int)(hl:xs.length<=1000000000)(P:xs.Pairwise (·<=·)):qd qb 55 [lI xs,aI x] (.tup [aI (z7 xs x),aB (decide (x∈xs))]):=by
 refine⟨call55,fun i w o J R=>?_⟩;obtain⟨u,v,rfl,T,U⟩:=R.two_inv;cases U;have g:∀ C:j2,VRel ⟨i,[]⟩ C.heap (.tup [aI (z7 xs x),aB (decide (x∈xs))]) (.tuple #[.int .i64 (z7 xs x:Nat),.bool (decide (x∈xs))]):=by
  intro C;refine .tup _ _ rfl (fun k y r=>?_);cases k with
  |zero=>simp at r;subst r;exact .sc _ rfl
  |succ k=>cases k with
   |zero=>simp at r;subst r;exact .sc _ rfl
   |succ k=>simp at r
 rcases VH T with ⟨rfl,a,c,rfl⟩|⟨a0,b,off,c,arr,e,fr,rfl,p,hc⟩
 .refine (Tryz.slices_BinarySearch_int_empty a c x w).mono fun e C ⟨t,I⟩=>?_
  subst I;refine⟨i,_,t,fun _ h=>h,fun b p=>⟨J.imm b p,.inl p⟩,⟨RowKit.Below.refl _ _,qr _⟩,?_⟩;exact g _
 .have l:∀ j,j<xs.length->w.cell? ⟨b,off+j,none⟩=some (.int .i64 (xs.getD j 0)):=by
   simp_all[World.cell?,Option.isSome_none,Bool.false_eq_true,if_false]
  refine(Tryz.slices_BinarySearch_int b off xs.length c xs x w (qr _) zOm l (by rw[zt];exact P)).mono fun e C ⟨t,q,I⟩=>?_
  subst I;rw[zt]at t;have e2:xs.contains x=decide (x∈xs):=by
   rw[Bool.eq_iff_iff];simp
  rw[e2]at t;refine⟨i,_,t,fun _ h=>h,fun b p=>⟨J.imm b p,.inl p⟩,⟨⟨rfl,rfl,rfl,qr _,fun _ _=>rfl⟩,Nat.le_add_right _ _⟩,?_⟩;exact g _
def Yg(P:qf)(l:AV){C:Type}(enc:C->AV)(ok:C->C->Prop)(p:C->C->Bool):Prop:=
 HF l/\∃ j i,l = .fn (.func j) [] i/\∀ x y,ok x y->∃ g,WKs ([enc x,enc y]++i) g/\qd P j g (aB (p x y))
theorem Yg.call{P:qf}{l:AV}{enc:C->AV}{ok:C->C->Prop}(h:Yg P l enc ok p){x y:C}(o:ok x y){det:Bool}{mu:Mu}{K r:AV->Mu->Prop}(k:K (aB (p x y)) mu):qc P det mu l [enc x,enc y] K r:=by
 obtain⟨_,j,i,rfl,h⟩:=h;obtain⟨g,t,I⟩:=h x y o;exact .inl ⟨_,.inl ⟨j,[],i,g,rfl,I,.inl (zUs t)⟩,k⟩
def yg(p:C->C->Bool):List C->List C->Bool
 |x :: J,y :: l=>p x y&&yg p J l
 | [],[]=>true
 |_,_=>false
theorem XQ(p:C->C->Bool):∀(xs ys:List C),xs.length≠ys.length->yg p xs ys=false
 | [],[],h=>absurd rfl h
 | [],_ :: _,_=>rfl
 |_ :: _,[],_=>rfl
 |x :: xs,y :: ys,h=>by
  simp_all[yg,XQ,Bool.and_false]
theorem qaD(p:C->C->Bool)(xs ys:List C)(k:Nat)(g:k<xs.length)(i:k<ys.length):yg p (xs.drop k) (ys.drop k)=(p xs[k] ys[k]&&yg p (xs.drop (k+1)) (ys.drop (k+1))):=by
 grind [zH,yg]
theorem VI(f:us):HF (.fn (.func f) [] []):=HF.fn (fun c g=>by simp at g) (fun c g=>by simp at g)
theorem qaE(xs ys:List (List Rl))(C:AV)(p:List Rl->List Rl->Bool)(hf:Yg qb C lRel (fun x y=>x∈xs/\y∈ys) p)(U:xs.length<=1000000000) :
  qd qb 51 [lSt xs,lSt ys,C] (aB (yg p xs ys)):=by
 refine qSU call51 func51 rfl ?_;by_cases g:xs.length=ys.length
 rotate_left
 .simp [go_sem,g,XQ p xs ys g]
  exact .zsc _
 simp[go_sem,g];refine qk.up xs.length (fun k st=>st.tm 1=lSt ys/\st.tm 2=C/\st.tm 15=lSt xs/\st.tm 16=aI xs.length/\st.tm 17=aI k/\yg p (xs.drop k) (ys.drop k)=yg p xs ys) ?_ ?_
 .simp [go_sem,g]
 rintro k st hk ⟨J,P,t,l,o,r⟩;by_cases j:k<xs.length
 .have i:k<ys.length:=by omega
  rw[qaD p xs ys k j i]at r;simp[go_sem,J,P,t,l,o,j,i];refine Yg.call (enc:=lRel) hf ⟨qo j,qo i⟩ ?_;cases R:p xs[k] ys[k] with
  |true =>
   rw[R,Bool.true_and]at r;simp[go_sem,J,P,t,l,o,j];exact⟨zWr,r⟩
  |false =>
   rw[R,Bool.false_and]at r;simp[go_sem];rw[<-r];exact .zsc _
 .have I:k=xs.length:=by omega
  subst I;rw[yQ,g,yQ]at r;simp[go_sem,l,o];rw[<-r];exact .zsc _
theorem xorU(a b:List Int)(ha:a.length<=1000000)(hb:b.length<=1000000)(R:b.Pairwise (·<·)):qd qb 52 [lI a,lI b] (aI (xorN a b)):=by
 refine qSV call52 func52 rfl ?_;have T:qx.wrap ((a.length:Int)+b.length)=(a.length:Int)+b.length:=zWr;simp[go_sem,T];refine qk.up a.length (fun k st=>st.tm 1=lI b/\st.tm 5=aI ((a.length:Int)+b.length-2*(z6 (a.take k) b).length)/\st.tm 15=lI a/\st.tm 16=aI a.length/\st.tm 17=aI k) ?_ ?_
 .simp [go_sem,z6]
 rintro k st hk ⟨C,r,l,g,i⟩;by_cases j:k<a.length
 .have o:=binU b a[k] zOm (R.imp fun h=>zOm)
  have p:a.take (k+1)=a.take k++[a[k]]:=by rw[List.take_add_one,qq j];rfl
  have U:(z6 (a.take k) b).length<=k:=by
   have:=List.length_filter_le (fun x=>decide (x∈b)) (a.take k);rw[vM]at this;show (List.filter _ _).length<=k;omega
  simp[go_sem,C,l,g,i,j];refine cA o (.zk (qM _) (.zs .nil)) ?_;have P:qx.wrap ((k:Int)+1)=((k+1:Nat):Int):=by rw[zWr];omega
  by_cases t:a[k]∈b
  .have I:z6 (a.take (k+1)) b=z6 (a.take k) b++[a[k]]:=by
    unfold z6;rw[p,List.filter_append,List.filter_cons];generalize List.filter (fun x=>decide (x∈b)) (a.take k)=l0;simp[t]
   have w3:qx.wrap ((a.length:Int)+b.length-2*(z6 (a.take k) b).length-2)=(a.length:Int)+b.length-2*(z6 (a.take k) b).length-2:=zWr;simp[go_sem,C,r,l,g,i,j,t,P,w3];rw[I,zc];simp;omega
  .have I:z6 (a.take (k+1)) b=z6 (a.take k) b:=by
    unfold z6;rw[p,List.filter_append,List.filter_cons];generalize List.filter (fun x=>decide (x∈b)) (a.take k)=l0;simp[t]
   simp[go_sem,C,r,l,g,i,j,t,P];rw[I]
 .have J:k=a.length:=by omega
  subst J;rw[zt]at r;simp[go_sem,r,g,i];exact .zsc _
theorem VJ(a b:Sc)(g:a.sC.length<=1000000):qd qb 50 [eSc a,eSc b] (aB (decide (a.sN=b.sN)&&decide (a.sC=b.sC))):=by
 refine qSU call50 func50 rfl ?_;by_cases h:a.sN=b.sN
 .simp [go_sem,h]
  refine fG (Xw a.sC b.sC zOm) (.zk (qM _) (.zk (qM _) .nil)) ?_;exact .zsc _
 .simp [go_sem,h]
  exact .zsc _
theorem qaF(x y:List Rl):qd qb 49 [lRel x,lRel y] (aB (decide (x.length=y.length))):=by
 refine qSU call49 func49 rfl ?_;exact .zsc _
theorem Yh(f:C->C->Int):∀(xs ys:List C) (k:Nat) (g:k<xs.length) (i:k<ys.length),sumZ f (xs.take (k+1)) (ys.take (k+1))=sumZ f (xs.take k) (ys.take k)+f xs[k] ys[k]
 |x :: xs,y :: ys,0,_,_=>by simp[sumZ]
 |x :: xs,y :: ys,k+1,g,i=>by
  simp only[List.take_succ_cons,sumZ,List.getElem_cons_succ];rw[Yh f xs ys k (zUs g) (zUs i)];omega
 | [],_,_,g,_=>by simp at g
 |_ :: _,[],_,_,i=>by simp at i
theorem Yi{f:C->C->Int}{M:Int}(g:0<=M):∀(xs ys:List C),(∀ x y,x∈xs->y∈ys->-M<=f x y/\f x y<=M)->-(xs.length*M)<=sumZ f xs ys/\sumZ f xs ys<=xs.length*M
 | [],_,_=>by simp[sumZ]
 |_ :: xs,[],_=>by
  have:0<=((xs.length:Int)+1)*M:=Int.mul_nonneg zOm g;simp[sumZ];omega
 |x :: xs,y :: ys,h=>by
  have l:=h x y zSp zSp;have o:=Yi g xs ys fun a b i j=>h a b (zP1 i) (zP1 j)
  have e:((xs.length+1:Nat):Int)*M=xs.length*M+M:=by rw[Int.natCast_add,Int.add_mul];omega
  grind [sumZ,zZ]
def xorR(r q:Rl):Int:=xorN r.ts q.ts
def xorT(s t:List Rl):Int:=sumZ xorR s t
def xorS(S T:Sts):Int:=sumZ xorT S T
theorem XR{a b:List Int}(g:a.length<=1000)(i:b.length<=1000) : -2000<=xorN a b/\xorN a b<=2000:=by
 grind [List.length_filter_le,decide,xorN,z6]
structure SmS (S:Sts):Prop where
 n:S.length<=1000
 f:∀ s,s∈S->s.length<=1000
 t:∀ s,s∈S->∀ r,r∈s->r.ts.length<=1000/\r.ts.Pairwise (·<·)
theorem VK{s t:List Rl}(o:s.length<=1000)(g:∀ r,r∈s->r.ts.length<=1000)(i:∀ r,r∈t->r.ts.length<=1000) : -2000000<=xorT s t/\xorT s t<=2000000:=by
 have:=Yi (f:=xorR) (M:=2000) zOm s t fun x y j l=>XR (g x j) (i y l)
 have p:(s.length:Int)*2000<=2000000:=zOm;unfold xorT;omega
def Yj(a b:Md):Int:=if decide (a.sc.sN=b.sc.sN)&&(decide (a.sc.sC=b.sc.sC)&&yg (fun x y=>decide (x.length=y.length)) a.sK b.sK) then xorS a.sK b.sK+(if a.loop=b.loop then 0 else 1) else -1
theorem XS:∀{xs ys:List C},yg p xs ys=true->xs.length=ys.length/\∀(k:Nat) (g:k<xs.length) (i:k<ys.length),p xs[k] ys[k]=true
 | [],[],_=>⟨rfl,fun k g=>by simp at g⟩
 |x :: xs,y :: ys,h=>by
  rw[yg,qi]at h;obtain⟨g,i⟩:=XS h.2;refine⟨zP1 g,fun k j l=>?_⟩;cases k with
  |zero=>exact h.1
  |succ k=>exact i k (zUs j) (zUs l)
 | [],_ :: _,h=>by simp[yg]at h
 |_ :: _,[],h=>by simp[yg]at h
theorem qaG(a b:Md)(ga:SmS a.sK)(gb:SmS b.sK)(a6:a.sc.sC.length<=1000000):qd qb 13 [eMd a,eMd b] (aI (Yj a b)):=by
 generalize I:Yj a b=R;unfold Yj at I;refine qSU call13 func13 rfl ?_;refine cA (VJ a.sc b.sc a6) (.zk (qX _) (.zk (qX _) .nil)) ?_;by_cases h1:a.sc.sN=b.sc.sN
 case neg =>
  simp[h1]at I;subst I;simp[go_sem,h1];exact .zsc _
 by_cases h2:a.sc.sC=b.sc.sC
 case neg =>
  simp[h2]at I;subst I;simp[go_sem,h1,h2];exact .zsc _
 simp[go_sem,h1,h2];refine cA (qaE a.sK b.sK _ (fun x y=>decide (x.length=y.length)) ⟨VI _,_,_,rfl,fun x y a9=>⟨[lRel x,lRel y],by simpa using WKs.zk (Vm x) (.zk (Vm y) .nil),qaF x y⟩⟩ (zW1 ga.n)) (.zk (Ya _) (.zk (Ya _) (.zk (VI _) .nil))) ?_;cases h3:yg (fun x y=>decide (x.length=y.length)) a.sK b.sK with
 |false =>
  simp[h3]at I;subst I;simp[go_sem];exact .zsc _
 |true =>
  simp[h1,h2,h3]at I;obtain⟨a8,a4⟩:=XS h3;have hn:=ga.n;simp[go_sem];refine qk.up a.sK.length (fun k st=>st.tm 2 = .ip (cMd a)/\st.tm 3 = .ip (cMd b)/\st.tm 6=aI (xorS (a.sK.take k) (b.sK.take k))/\st.tm 27=lSt a.sK/\st.tm 28=aI a.sK.length/\st.tm 29=aI k) ?_ ?_
  .simp [go_sem,xorS,sumZ]
  rintro k st hk ⟨e2,e3,e6,J,o,p⟩;by_cases C:k<a.sK.length
  .have i:k<b.sK.length:=by omega
   have hl:=of_decide_eq_true (a4 k C i);have aa:=ga.f _ (qo C);have a0:=ga.t _ (qo C);have U:=gb.t _ (qo i);have hD : -(2000000000:Int)<=xorS (a.sK.take k) (b.sK.take k)/\xorS (a.sK.take k) (b.sK.take k)<=2000000000:=by
    have:=Yi (f:=xorT) (M:=2000000) zOm (a.sK.take k) (b.sK.take k) fun x y hx hy=>VK (ga.f x (jg hx)) (fun r P=>(ga.t x (jg hx) r P).1) (fun r P=>(gb.t y (jg hy) r P).1)
    rw[vM]at this;have h5:((min k a.sK.length:Nat):Int)*2000000<=2000000000:=zOm;unfold xorS;omega
   generalize a7:xorS (a.sK.take k) (b.sK.take k)=D at *
   simp[go_sem,J,o,p,C];refine qk.up a.sK[k].length (fun j st=>st.tm 2 = .ip (cMd a)/\st.tm 3 = .ip (cMd b)/\st.tm 6=aI (D+xorT (a.sK[k].take j) (b.sK[k].take j))/\st.tm 7=aI k/\st.tm 27=lSt a.sK/\st.tm 28=aI a.sK.length/\st.tm 29=aI k/\st.tm 34=lRel a.sK[k]/\st.tm 35=aI a.sK[k].length/\st.tm 36=aI j) ?_ ?_
   .simp [go_sem,e2,e3,e6,J,o,p,xorT,sumZ]
   rintro j st hj ⟨e2,e3,e6,e7,J,o,p,a5,a1,a2⟩;by_cases T:j<a.sK[k].length
   .have g:j<b.sK[k].length:=by omega
    have hx:=xorU a.sK[k][j].ts b.sK[k][j].ts (zW1 ((a0 _ (qo T)).1)) (zW1 ((U _ (qo g)).1)) (U _ (qo g)).2;simp[go_sem,a5,a1,a2,T];refine aQ zKr ?_;simp[go_sem,e3,e6,e7,g,i];refine cA hx (.zk (qM _) (.zk (qM _) .nil)) ?_;simp[go_sem,e2,e3,e7,J,o,p,a5,a1,a2,T];have hs:=Yh xorR a.sK[k] b.sK[k] j T g;have ab:=VK (s:=a.sK[k].take j) (t:=b.sK[k].take j) (by rw[vM];omega) (fun r P=>(a0 r (jg P)).1) (fun r P=>(U r (jg P)).1);have ad:=XR (a0 _ (qo T)).1 (U _ (qo g)).1;refine⟨?_,zWr⟩;rw[zWr];unfold xorT at *
    rw[hs];unfold xorR;omega
   .have a3:j=a.sK[k].length:=by omega
    subst a3;simp[go_sem,e2,e3,e6,J,o,p,a1,a2];have hs:=Yh xorT a.sK b.sK k C i;refine⟨C,?_,zWr⟩;unfold xorS at *
    rw[hs,a7,zi (l:=b.sK[k]) zOm]
  .have a3:k=a.sK.length:=by omega
   subst a3;rw[zi (l:=a.sK) (qr _),zi (l:=b.sK) zOm]at e6;have hD : -(2000000000:Int)<=xorS a.sK b.sK/\xorS a.sK b.sK<=2000000000:=by
    have:=Yi (f:=xorT) (M:=2000000) zOm a.sK b.sK fun x y hx hy=>VK (ga.f x hx) (fun r P=>(ga.t x hx r P).1) (fun r P=>(gb.t y hy r P).1)
    have h5:(a.sK.length:Int)*2000000<=2000000000:=zOm;unfold xorS;omega
   simp[go_sem,e2,e3,o,p];by_cases h6:a.loop=b.loop
   .rw [if_pos h6]at I
    simp[go_sem,e6,h6];rw[<-I,Int.add_zero];exact .zsc _
   .rw [if_neg h6]at I
    have w1:qx.wrap (xorS a.sK b.sK+1)=xorS a.sK b.sK+1:=zWr;simp[go_sem,e6,h6,w1];rw[<-I];exact .zsc _
end
end GD
namespace EZ
end EZ
namespace Y10
open Y2 P1 Y9
theorem wo(ts:TS):∀ k,k<=ts.sT.length->(tmsL ts k).length=k
 | 0,_=>rfl
 |k+1,h=>by
  have g:k<ts.sT.length:=zOm;simp[tmsL,wo ts k zOm,qq g]
theorem Yk{ts:TS}(h:okTS ts){k:Nat}(g:k<=ts.sT.length):okCk (mkCk ts k):=⟨h,g,Nat.le_of_eq (wo ts k g).symm⟩
theorem XT(a b:cD):(a.toList == b.toList)=decide (a=b):=by
 grind [j7,decide_eq_false]
theorem VL{mu:Mu}{sz:Nat}{s:AV}{xs:List (List AV)}(h:Own mu sz s xs)(c:Cell):Own (mu++[c]) sz s xs:=by
 rcases h with rfl|⟨b,rfl,g⟩
 .exact .inl rfl
 .exact .inr ⟨b,rfl,by grind⟩
end Y10
namespace Y11
open Y1 Y2 P1
def cKo:Option Kd->List AV
 |some k=>cKd k
 |none=>[aI 0,.sc (.map none)]
@[go_sem] theorem cKo_some(k:Kd):cKo (some k)=cKd k:=rfl
@[go_sem] theorem cKo_none:cKo none=[aI 0,.sc (.map none)]:=rfl
def endK:Res->AEnd
 | .ok k => .ret (.agg (cKo k))
 | .error e => .pan (Z7 e.1 e.2)
@[go_sem] theorem endK_ok(k:Option Kd):endK (.ok k) = .ret (.agg (cKo k)):=rfl
@[go_sem] theorem qh5(e:Dg):endK (.error e) = .pan (Z7 e.1 e.2):=rfl
end Y11
namespace Y12
open Y2 P1 Y6 Y8
def trF(t:Tp):Tp:=[t.getD 1 0,t.getD 0 0,0]
theorem qaH{a:List Tp}{t:Tp}:t∈uni [] (a.map fun t=>[t.getD 1 0,t.getD 0 0,0])↔∃ x,x∈a/\trF x=t:=by
 rw[jB];simp[trF]
structure ApOk (op:Int) (l:List (Option Kd)):Prop where
 one:op=5->∃ a,l=[a]
 bin:op=11\/op=12\/op=13->∃ a,l=[some a]/\okK a/\(a.ar=2->ok2 a)
 two:op=6\/op=14\/op=7\/op=8\/op=32\/op=33\/op=9\/op=10->∃ a b,l=[some a,some b]/\okK a/\okK b
theorem XU{ns:Nat}{op n pos:Int}{l:List (Option Kd)}(i:op≠2)(j:op≠3)(o:op≠4)(p:op≠5)(r:op≠11)(t:op≠12)(C:op≠13)(t1:op≠6)(t2:op≠14)(t3:op≠7)(t4:op≠8)(t5:op≠32)(t6:op≠33)(I:op≠9)(g:op≠10):zQ ns op n pos l = .ok none:=by
 unfold zQ;rw[if_neg i,if_neg j,if_neg o];split
 .simp only[p,r,t,C,or_self,if_false]
  split<;>rfl
 .simp only[t1,t2,t3,t4,t5,t6,I,g,or_self,if_false]
 .rfl
end Y12
namespace P2
open Y1 Y2 Y3 P1 Y6 Y8 Y9 Y12
section
variable {a b k:Kd}{l:List Int}{ns:Nat}
def kd(op:Int):Int:=if 1<=op/\op<=15 then 101 else if 20<=op/\op<=23 then 105 else if 30<=op/\op<=51 then 102 else 0
def shp(op:Int)(nk:Nat):Option (List Int):=
 if op=1\/op=2\/op=3\/op=4\/op=20\/op=30\/op=31 then some []
 else if op=5\/op=11\/op=12\/op=13\/op=21\/op=34\/op=35\/op=36\/op=37 then some [101]
 else if op=6\/op=7\/op=8\/op=9\/op=10\/op=14\/op=32\/op=33 then some [101,101]
 else if op=15\/op=45\/op=46 then some [101,102]
 else if op=22\/op=23\/op=38\/op=39 then some [105,105]
 else if op=40\/op=48\/op=49\/op=50 then some [102]
 else if op=41\/op=42\/op=43\/op=44\/op=51 then some [102,102]
 else if op=47 then some (zd (min nk 401) 101)
 else none
inductive WfN:Nd->Prop where
 |mk (n:Nd) (h:shp n.op n.sM.length=some (n.sM.map fun k=>kd k.op)) (hn:n.op=2->1<=n.n/\n.n<=3) (hk:∀ k,k∈n.sM->WfN k):WfN n
theorem WfN.shape{n:Nd}(h:WfN n):shp n.op n.sM.length=some (n.sM.map fun k=>kd k.op):=by cases h;assumption
theorem WfN.num{n:Nd}(h:WfN n):n.op=2->1<=n.n/\n.n<=3:=by cases h;assumption
theorem WfN.kid{n k:Nd}(h:WfN n)(g:k∈n.sM):WfN k:=by
 cases h with
 |mk _ _ _ h=>exact h k g
theorem XV{op:Int}{nk:Nat}(h:shp op nk=some l):l.length<=401:=by
 grind [shp]
theorem WfN.len{n:Nd}(h:WfN n):n.sM.length<=401:=by
 have:=XV h.shape;simpa using this
theorem WfN.small{n:Nd}(h:WfN n):jD n:=by
 induction h with
 |mk n g j l i=>exact .mk n (by have:=XV g;simp at this;omega) i
structure okKd (ns:Nat) (k:Kd):Prop where
 ar:1<=k.ar/\k.ar<=3
 nd:k.ts.Nodup
 ts:∀ t,t∈k.ts->∃ l,t=pad l/\(l.length:Int)=k.ar/\∀ x,x∈l->0<=x/\x<ns
theorem okKd.okK(h:okKd ns k):okK k:=⟨h.ar,fun t g=>by obtain⟨l,rfl,_⟩:=h.ts t g;rfl,h.nd⟩
theorem okKd.ok2(h:okKd ns k)(o:ns<=4)(g:k.ar=2):ok2 k:=⟨g,h.nd,fun t p=>by
 obtain⟨l,rfl,i,j⟩:=h.ts t p;rw[g]at i
 match l,i with
 | [x,y],_ =>
  have r:=j x zSp;have g:=j y zSp;exact⟨x,y,rfl,zOm,zOm,zOm,zOm⟩⟩
theorem aN(i:k.ar=2)(g:k.ts.Nodup)(h:∀ t,t∈k.ts->∃ x y:Int,t=[x,y,0]/\0<=x/\x<ns/\0<=y/\y<ns):okKd ns k:=⟨zOm,g,fun t j=>by
 obtain⟨x,y,rfl,o,p,r,C⟩:=h t j;exact⟨[x,y],rfl,by rw[i];rfl,fun z l=>by simp at l;omega⟩⟩
theorem okKd.pairs(h:okKd ns k)(g:k.ar=2):∀ t,t∈k.ts->∃ x y:Int,t=[x,y,0]/\0<=x/\x<ns/\0<=y/\y<ns:=fun t p=>by
 obtain⟨l,rfl,i,j⟩:=h.ts t p;rw[g]at i
 match l,i with
 | [x,y],_ =>
  have o:=j x zSp;have g:=j y zSp;exact⟨x,y,rfl,o.1,o.2,g.1,g.2⟩
theorem VM(j:1<=l.length)(o:l.length<=3)(i:∀ x,x∈l->0<=x/\x<ns):okKd ns (kOf l):=
 ⟨by grind [kOf],by simp[kOf],fun t g=>by
  have g:t∈[pad l]:=g;rw[qV]at g;exact⟨l,g,rfl,i⟩⟩
theorem qaI{n:Int}(h:1<=n/\n<=3):okKd ns ⟨n,[]⟩:=⟨h,zSp,fun t g=>by simp at g⟩
theorem VN(ns g:Nat)(C:1<=g)(I:g<=3):okKd ns (zg ns g):=by
 refine⟨by grind [zg],?_,fun t l=>?_⟩
 .refine List.pairwise_map.2 ((List.pairwise_iff_getElem.2 fun i j o J p=>?_))
  simp only[List.getElem_range];obtain⟨a,rfl⟩:∃ a,g=a+1:=⟨g-1,zOm⟩
  grind [pad]
 .have l:t∈(qm ns).map fun (i:Nat)=>pad (zd g (i:Int)):=l
  obtain⟨i,o,rfl⟩:=qs.1 l;rw[zY]at o;exact⟨_,rfl,by simp[zg],fun x r=>by rw[List.eq_of_mem_replicate r];omega⟩
theorem QV(i:okKd ns a)(j:okKd ns b)(h:a.ar=b.ar):okKd ns (kSum a b):=by
 refine⟨i.ar,Qr (Qr zSp),fun t g=>?_⟩;have g:t∈uni (uni [] a.ts) b.ts:=g;simp only[jB,zb,false_or]at g;rcases g with g|g
 .exact i.ts t g
 .obtain ⟨l,e,o,p⟩:=j.ts t g
  exact⟨l,e,by rw[o,<-h];rfl,p⟩
theorem qaJ(g:okKd ns a):okKd ns (Vu a b):=
 ⟨g.ar,g.nd.filter _,fun t i=>g.ts t (jL.1 i).1⟩
theorem qaK{op:Int}(g:okKd ns a)(i:okKd ns b)(h:a.ar=b.ar):okKd ns (uB op a b):=by
 grind [uB,QV,qaJ]
theorem uF(h:l.length<=3)(k:Nat)(g:k<=l.length):(pad l).take k=l.take k:=by
 match l,h with
 | [],_=>grind
 | [a],_=>match k,g with
  | 0,_=>rfl
  | 1,_=>rfl
 | [a,b],_=>match k,g with
  | 0,_=>rfl
  | 1,_=>rfl
  | 2,_=>rfl
 | [a,b,c],_=>match k,g with
  | 0,_=>rfl
  | 1,_=>rfl
  | 2,_=>rfl
  | 3,_=>rfl
theorem QW{g i:List Int}(j:g.length<=3)(l:i.length<=3)(s:Nat):conc (pad g) g.length (pad i) i.length s=pad (g.take (g.length-s)++i.drop s):=by
 simp_all[conc,uF,qr,zt]
theorem QX(i:okKd ns a)(j:okKd ns b)(o:1<=a.ar+b.ar-2)(p:a.ar+b.ar-2<=3):okKd ns (zl a b):=by
 refine⟨⟨o,p⟩,mm,fun t r=>?_⟩;obtain⟨x,y,⟨C,I⟩,hf⟩:=wd.1 r;obtain⟨g,rfl,J,P⟩:=i.ts x C;obtain⟨l,rfl,R,T⟩:=j.ts y I;have U:=i.ar;have a0:=j.ar;unfold Vv at hf;split at hf
 .simp only[qj]at hf
  rw[show a.ar.toNat=g.length by omega,show b.ar.toNat=l.length by omega,QW zOm zOm]at hf;refine⟨_,hf.symm,?_,fun z hz=>?_⟩
  .show ((g.take (g.length-1)++l.drop 1).length:Int)=a.ar+b.ar-2
   simp only[zc,vM,List.length_drop];omega
  grind
 grind
theorem qaL(i:okKd ns a)(j:okKd ns b)(o:a.ar+b.ar<=3):okKd ns (wc a b):=by
 have p:=i.ar;have r:=j.ar;refine⟨⟨by grind [wc],o⟩,mn,fun t C=>?_⟩;obtain⟨x,y,⟨I,J⟩,hf⟩:=Vw.1 C;obtain⟨g,rfl,P,R⟩:=i.ts x I;obtain⟨l,rfl,T,U⟩:=j.ts y J;unfold v6 at hf;simp only[qj]at hf;rw[show a.ar.toNat=g.length by omega,show b.ar.toNat=l.length by omega,QW zOm zOm]at hf;refine⟨_,hf.symm,?_,fun z hz=>?_⟩
 .show ((g.take (g.length-0)++l.drop 0).length:Int)=a.ar+b.ar
  simp only[zc,vM,List.length_drop];omega
 grind
theorem qaM(g:okKd ns a)(i:a.ar=2):okKd ns (kTr a):=by
 refine aN rfl (Qr zSp) (fun t j=>?_);obtain⟨x,l,rfl⟩:=qaH.1 j;obtain⟨p,q,rfl,o,r,C,I⟩:=g.pairs i x l;exact⟨q,p,rfl,C,I,o,r⟩
theorem Yl(i:okKd ns a)(g:a.ar=2):okKd ns (kClo a)/\(kClo a).ar=2:=by
 have:∀(f n:Nat) (a:Kd),okKd ns a->a.ar=2->okKd ns (cloN f n a)/\(cloN f n a).ar=2:=by
  intro f;induction f with
  |zero=>intro n a h g;exact⟨h,g⟩
  |succ f j =>
   intro n a h g;unfold cloN;split
   .exact j _ _ (QV h (QX h h zOm zOm) (by grind [zl])) g
   grind
 exact this 70 0 a i g
theorem qaN{op:Int}(g:okKd ns a)(i:a.ar=2):okKd ns (binK ns op a):=by
 unfold binK;split
 .grind [Yl]
 .split
  .exact QV (Yl g i).1 (VN ns 2 zOm zOm) (by rw[(Yl g i).2];rfl)
  .exact qaM g i
def ScOk(ns:Nat)(s:Scp):Prop:=∀ v,v∈s->okKd ns v.2/\v.2.ar=1
theorem XW{nm:cD}:∀{s:Scp} {v:cD×Kd} {r:Scp},jb nm s=v :: r->v∈s
 | [],v,r,h=>by simp[jb]at h
 |w :: s,v,r,h=>by
  unfold jb at h;split at h
  .cases h;exact q8
  .exact qJ _ (XW h)
theorem qaO{ts:TS}(h:okTS ts){nm:cD}{k:Kd}(g:k∈vy ts nm):okKd ts.sS.length k:=by
 unfold vy at g;rcases qR.1 g with g|g
 .unfold j9 at g
  obtain⟨f,hf,e⟩:=List.mem_filterMap.1 g;split at e
  .cases e
   have:=h.fl f hf
   grind [VM]
  grind
 .have:∀(j:List (cD×Bool)) (i:Nat),i+j.length<=ts.sS.length->∀ k,k∈vY i j nm->okKd ts.sS.length k:=by
   intro j;induction j with
   |nil=>grind [vY]
   |cons s j l =>
    grind [zZ,kOf,VM,vY,Qu]
  grind
theorem va(c:Ck)(s:Scp)(inn:Bool)(n:Nd):exam c s inn n =
  if (inn&&yo c n.op n.name)=true then .error (46,n.pos)
  else if n.op=1 then yA c s n.name n.pos
  else if n.op=47 then
   if (c.ts.sT.any fun p=>decide (p.name=n.name))=true then
    match zh c n.name with
    |none => .error (45,n.pos)
    |some p=>match c.ts.sT[p]? with
     |none => .error (45,n.pos)
     |some g=>if g.params.length=n.sM.length then yf c s n.pos g.params n.sM else .error (45,n.pos)
   else .error (40,n.pos)
  else if n.op=15\/n.op=45\/n.op=46 then yp c s (inn||decide (n.op=15)) n.name n.pos n.sM
  else match zq c s (inn||decide (n.op=12)||decide (n.op=13)) n.sM with
   | .error e => .error e
   | .ok l=>zQ c.ts.sS.length n.op n.n n.pos l:=by
 obtain⟨op,i,k,ks,pos⟩:=n;simp only[exam,Nd.op,Nd.name,Nd.n,Nd.sM,Nd.pos];rfl
theorem VO{c:Ck}{s:Scp}{inn:Bool}:∀{ks:List Nd} {l:List (Option Kd)},zq c s inn ks = .ok l->l.length=ks.length/\∀(i:Nat) k a,ks[i]?=some k->l[i]?=some a->exam c s inn k = .ok a
 | [],l,h=>by grind [zq,jP]
 |k :: ks,l,h=>by
  simp only[zq]at h;cases g:exam c s inn k with
  |error e=>rw[g]at h;exact absurd h zSp
  |ok a =>
   rw[g]at h;simp only at h;cases j:zq c s inn ks with
   |error e=>rw[j]at h;exact absurd h zSp
   |ok r =>
    rw[j]at h;simp only[jP]at h;subst h;obtain⟨t,C⟩:=VO j;refine⟨zP1 t,fun i I J o p=>?_⟩;cases i with
    |zero=>simp at o p;subst o;subst p;exact g
    |succ i=>exact C i I J (zUs o) (zUs p)
theorem VP{op:Int}(h:kd op=101):1<=op/\op<=15:=by
 grind [kd,absurd]
theorem XX(C:ns<=4){n:Nd}(R:WfN n){l:List (Option Kd)}(p:l.length=n.sM.length)(h:∀(i:Nat) k a,n.sM[i]?=some k->l[i]?=some a->kd k.op=101->∃ q,a=some q/\okKd ns q) :
  ApOk n.op l/\(n.op=5->∃ a,l=[some a]/\okKd ns a)/\(n.op=11\/n.op=12\/n.op=13->∃ a,l=[some a]/\okKd ns a)/\(n.op=6\/n.op=14\/n.op=7\/n.op=8\/n.op=32\/n.op=33\/n.op=9\/n.op=10->∃ a b,l=[some a,some b]/\okKd ns a/\okKd ns b):=by
 have g:=R.shape;have r:n.op=5\/n.op=11\/n.op=12\/n.op=13->∃ a,l=[some a]/\okKd ns a:=by
  intro j;have e:shp n.op n.sM.length=some [101]:=by
   unfold shp;rw[zIn,if_pos zOm]
  rw[e]at g;simp only[qj]at g
  match o:n.sM,g with
  | [k],g =>
   simp at g;rw[o]at p
   match l,p with
   | [a],_ =>
    obtain⟨q,rfl,J⟩:=h 0 k a (by rw[o];rfl) rfl g.symm
    grind
  | [],g=>simp at g
  |_ :: _ :: _,g=>simp at g
 have P:n.op=6\/n.op=14\/n.op=7\/n.op=8\/n.op=32\/n.op=33\/n.op=9\/n.op=10->∃ a b,l=[some a,some b]/\okKd ns a/\okKd ns b:=by
  intro j;have e:shp n.op n.sM.length=some [101,101]:=by
   unfold shp;rw[zIn,zIn,if_pos zOm]
  rw[e]at g;simp only[qj]at g
  match o:n.sM,g with
  | [k,T],g =>
   simp at g;rw[o]at p
   match l,p with
   | [a,b],_ =>
    obtain⟨q,rfl,J⟩:=h 0 k a (by rw[o];rfl) rfl g.1.symm;obtain⟨U,rfl,I⟩:=h 1 T b (by rw[o];rfl) rfl g.2.symm;exact⟨q,U,rfl,J,I⟩
  | [],g=>simp at g
  | [_],g=>simp at g
  |_ :: _ :: _ :: _,g=>simp at g
 refine⟨⟨fun j=>?_,fun j=>?_,fun j=>?_⟩,fun j=>r (.inl j),fun j=>r (.inr j),P⟩
 .obtain ⟨a,rfl,_⟩:=r (.inl j);exact⟨_,rfl⟩
 .obtain ⟨a,rfl,t⟩:=r (.inr j);exact⟨a,rfl,t.okK,t.ok2 C⟩
 .obtain ⟨a,b,rfl,t,hb⟩:=P j;exact⟨a,b,rfl,t.okK,hb.okK⟩
theorem wq{c:Ck}(I:okCk c):∀(m:Nat) (n:Nd) (s:Scp) (inn:Bool) (P:Option Kd),szN n<=m->WfN n->ScOk c.ts.sS.length s->exam c s inn n = .ok P->kd n.op=101->∃ k,P=some k/\okKd c.ts.sS.length k
 | 0,n,_,_,_,hm,_,_,_,_=>by obtain⟨op,nm,i,ks,p⟩:=n;simp[szN]at hm
 |m+1,n,s,inn,P,hm,o,R,h,U=>by
  have ho:=VP U;have a0:=I.ts.ns;rw[va]at h;split at h
  .grind
  split at h
  .unfold yA at h
   split at h
   .rename_i v r hf
    simp only[jP]at h;exact⟨v.2,h.symm,(R v (XW hf)).1⟩
   .split at h
    .grind
    .rename_i k t
     simp only[jP]at h;exact⟨k,h.symm,qaO I.ts (by rw[t];simp)⟩
    grind
  split at h
  .omega
  split at h
  .rename_i hb
   have g:=o.shape;have e:shp n.op n.sM.length=some [101,102]:=by
    unfold shp;rw[zIn,zIn,zIn,if_pos zOm]
   rw[e]at g;simp only[qj]at g
   match t:n.sM,g with
   | [a,f],g =>
    simp at g;rw[t]at h;simp only[yp]at h;cases hq:exam c s (inn||decide (n.op=15)) a with
    |error e=>grind
    |ok q =>
     obtain⟨k,rfl,a6⟩:=wq I m a s _ q (by have:=jC (n:=n) (k:=a) (by rw[t];simp);omega) (o.kid (by rw[t];simp)) R hq g.1.symm
     grind
   | [],g=>simp at g
   | [_],g=>simp at g
   |_ :: _ :: _ :: _,g=>simp at g
  .rename_i n1 a7 nb
   cases hl:zq c s (inn||decide (n.op=12)||decide (n.op=13)) n.sM with
   |error e=>grind
   |ok l =>
    rw[hl]at h;simp only at h;obtain⟨C,a3⟩:=VO hl;obtain⟨_,a5,a1,a2⟩:=XX (ns:=c.ts.sS.length) a0 o C (fun i k a hi J a4=>wq I m k s _ a (zW1 (jC (n:=n) (qY hi))) (o.kid (qY hi)) R (a3 i k a hi J) a4);unfold zQ at h;split at h
    .rename_i h2
     simp only[jP]at h;exact⟨_,h.symm,qaI (o.num h2)⟩
    split at h
    .grind [jP,VN]
    split at h
    .grind [jP,VN]
    have j:n.op=5\/(n.op=11\/n.op=12\/n.op=13)\/(n.op=6\/n.op=14\/n.op=7\/n.op=8\/n.op=32\/n.op=33\/n.op=9\/n.op=10):=zOm;rcases j with h5|h1|h2
    .obtain ⟨a,rfl,J⟩:=a5 h5
     simp only[if_pos h5,jP]at h
     grind
    .obtain ⟨a,rfl,J⟩:=a1 h1
     have n5:n.op≠5:=zOm;simp only[if_neg n5,if_pos h1]at h
     grind [jP,qaN,absurd]
    .obtain ⟨a,b,rfl,J,hb⟩:=a2 h2
     simp only at h;split at h
     .grind [jP,qaK,absurd]
     grind [jP,QX,absurd,qaL]
end
end P2
namespace EA
end EA
namespace F2
end F2
namespace F3
end F3
namespace F4
open E3 EO F1
section
variable {av:AV}{xs:List (List AV)}{mu:Mu}{sz:Nat}
theorem Own.one(h:Own mu sz av xs):av.one=true:=by
 rcases h with rfl|⟨b,rfl,_⟩<;>rfl
theorem Own.cells(h:Own mu sz av xs):av.cells=[av]:=by
 rcases h with rfl|⟨b,rfl,_⟩<;>rfl
theorem Own.push(h:Own mu sz av xs)(c:List Cell):Own (mu++c) sz av xs:=by
 rcases h with rfl|⟨b,rfl,g⟩
 .exact .inl rfl
 .exact .inr ⟨b,rfl,by grind⟩
theorem Own.set(h:Own mu sz av xs){i:Nat}(c:Cell)(g:qw av≠some i):Own (mu.set i c) sz av xs:=by
 rcases h with rfl|⟨b,rfl,j⟩
 .exact .inl rfl
 .exact .inr ⟨b,rfl,by rw[jK (fun e=>g (by rw[e];rfl))];exact j⟩
theorem Own.lt(h:Own mu sz av xs){b:Nat}(g:qw av=some b):b<mu.length:=by
 rcases h with rfl|⟨j,rfl,i⟩
 .cases g
 .cases g;exact(qn.1 i).1
theorem qI.ownB{P:qf}{t g e bt:Nat}{s x:AV}{ys:List (List AV)}{zv:AV}{K:AV->Mu->Prop}(T:qy P t=some (e,sz,bt))(j:(qy P g).isSome=true)(U:qv P e=some zv)
  (l:zv.cells.length=sz) (o:zv.cells.all AV.one=true) (r:sz≠0) (hb:bt<=16384) (ho:Own mu sz s xs) (hx:qE mu x=some ys) (J:za sz xs) (wy:za sz ys) (R:xs.length+ys.length<=4294967296)
  (k:∀ av p,Own p sz av (xs++ys)->(∀ i,i<mu.length->qw s≠some i->p[i]?=mu[i]?)->(∀ b,qw av=some b->b=mu.length)->mu.length<=p.length->K av p):qI P mu #[t,g] s x K:=by
 refine .inl ?_;refine⟨t,g,e,sz,bt,ys,rfl,T,j,⟨zv,U,l,o⟩,r,hb,hx,wy,?_⟩;rcases ho with rfl|⟨b,rfl,hc⟩
 .refine .inl ⟨xs,rfl,J,R,fun h=>?_,fun h=>?_⟩
  .subst h
   exact k _ _ (.inl zSp) (fun _ _ _=>rfl) (fun b h=>by cases h) (qr _)
  .refine k _ _ (.inr ⟨mu.length,zSp,zSp⟩) (fun i C _=>?_) (fun b h=>by cases h;rfl) zSp
   rw[qT C]
 .have a0:=z2 J.ok
  refine .inr ⟨b,xs.length,xs.flatten,rfl,hc,zOm,R,?_⟩;have a1:xs.flatten.take (xs.length*sz)=xs.flatten:=zi zOm;refine k _ _ (.inr ⟨mu.length,zSp,?_⟩) (fun i C I=>?_) (fun b h=>by cases h;rfl) zSp
  .grind
  .rw [qT (zUs C)]
   rw[jK (fun e=>I (by rw[e];rfl))]
def endL:XE (List Bool)->AEnd
 | .ok l => .ret (lB l)
 | .error e => .pan (errV e)
@[go_sem] theorem endL_ok(l:List Bool):endL (.ok l) = .ret (lB l):=rfl
@[go_sem] theorem endL_err(e:Int):endL (.error e) = .pan (errV e):=rfl
end
end F4
namespace F5
end F5
namespace F6
end F6
namespace F7
end F7
namespace F8
end F8
namespace E8
end E8
namespace EB
end EB
namespace EK
end EK
namespace F9
end F9
namespace FA
end FA
namespace FB
end FB
namespace FC
end FC
namespace E9
open P1 YF E1 E3 E4
section
variable {sp:Sp}
theorem QY(sc:Sc)(g:GSc sc):qd qb 21 [eSc sc] (aI (sumI sc.sC)):=by
 refine qSU call21 func21 rfl ?_;refine qk.up sc.sC.length (fun k st=>st.tm 1 = .ip [lI sc.sC,aI sc.sN]/\st.tm 3=aI (sumI (sc.sC.take k))/\st.tm 4=aI k/\st.mu=[]) ?_ ?_
 .simp [go_sem,sumI]
 rintro k st I ⟨o,p,r,t⟩;have J:=g.1;simp[go_sem,o,r,t];refine cT (fun i=>?_) (fun j=>?_)
 .have i:k<sc.sC.length:=by simpa using i
  have C:=vW sc.sC k i;have l:=g.sum (k+1);rw[C]at l;simp[go_sem,o,p,r,i]
  grind [yi]
 .have j:k=sc.sC.length:=by simp at j;omega
  subst j;simp[go_sem,p];exact .zsc _
def vA:List Int->Int->Int->Int
 | [],_,_ => -1
 |a :: l,x,i=>if x<a then i else vA l (x-a) (i+1)
def yM(sc:Sc)(x:Int):Int:=vA sc.sC x 0
theorem VQ(l:List Int)(k:Nat)(x i:Int)(h:k<l.length):vA (l.drop k) x i=if x<l[k] then i else vA (l.drop (k+1)) (x-l[k]) (i+1):=by
 rw[zH h,vA]
theorem qaP(sc:Sc)(g:GSc sc)(x:Int)(P : -1000000<=x/\x<=1000000):qd qb 98 [eSc sc,aI x] (aI (yM sc x)):=by
 refine qSU call98 func98 rfl ?_;refine qk.up sc.sC.length (fun k st=>st.tm 2 = .ip [lI sc.sC,aI sc.sN]/\st.tm 5=aI k/\st.mu=[]/\∃ y,st.tm 1=aI y/\vA (sc.sC.drop k) y k=yM sc x/\y+5*k>=x/\y<=x) ?_ ?_
 .simp [go_sem,yM]
 rintro k st R ⟨r,o,C,y,t,j,I,J⟩;have T:=g.1;simp[go_sem,r,o,C];refine cT (fun i=>?_) (fun l=>?_)
 .have i:k<sc.sC.length:=by simpa using i
  have U:=g.get i;rw[VQ _ _ _ _ i]at j;simp[go_sem,r,o,t,i];refine cT (fun p=>?_) (fun p=>?_)
  .simp [go_sem,o]
   simp at p;rw[if_pos p]at j;rw[<-j];exact .zsc _
  .simp [go_sem,r,o,t,i]
   simp at p;rw[zIn]at j;rw[zWr,zWr];exact⟨rfl,j,zOm,zOm⟩
 .have l:k=sc.sC.length:=by simp at l;omega
  subst l;simp[go_sem];simp[vA]at j;rw[<-j];exact .zsc _
def yq(sp:Sp)(sc:Sc):Bool:=decide (sc.sC.length=sp.sS.length)&&decide (sp.sS.length<=4)&&decide (1<=sc.sN)&&decide (sc.sN<=4)&&sc.sC.all (fun a=>decide (1<=a)&&decide (a<=5))&&decide (sumI sc.sC<=12)
theorem XY(sp:Sp)(sc:Sc)(t:sc.sC.length<=9223372036854775807):qd qb 61 [eSp sp,eSc sc] (aB (yq sp sc)):=by
 refine qSV call61 func61 rfl ?_;by_cases p:sc.sC.length=sp.sS.length
 case neg =>
  simp[go_sem,p,yq];exact .zsc _
 by_cases o:(4:Int)<sp.sS.length
 case pos =>
  simp[go_sem,p,o,yq,show ¬sp.sS.length<=4 by omega];exact .zsc _
 by_cases R:sc.sN<1
 case pos =>
  simp[go_sem,p,o,R,yq,show ¬ 1<=sc.sN by omega];exact .zsc _
 by_cases U:4<sc.sN
 case pos =>
  simp[go_sem,p,o,R,U,yq,show ¬sc.sN<=4 by omega];exact .zsc _
 simp[go_sem,p,o,R,U];refine qk.up sc.sC.length (fun k st=>st.tm 3 = .ip [lI sc.sC,aI sc.sN]/\st.tm 5=aI k/\st.mu=[]/\∀(i:Nat) (h:i<sc.sC.length),i<k->1<=sc.sC[i]/\sc.sC[i]<=5) ?_ ?_
 .simp [go_sem]
 rintro k st hk ⟨C,I,J,he⟩;by_cases l:k<sc.sC.length
 .by_cases hb:sc.sC[k]<1\/5<sc.sC[k]
  .have:sc.sC.all (fun a=>decide (1<=a)&&decide (a<=5))=false:=by
    rw[<-Bool.not_eq_true,qu];intro j;have:=j _ (qo l);simp at this;omega
   have:yq sp sc=false:=by simp only[yq,this,Bool.and_false,Bool.false_and]
   rw[this];by_cases r:sc.sC[k]<1
   .simp [go_sem,C,I,J,l,r]
    exact .zsc _
   .simp [go_sem,C,I,J,l,r,show 5<sc.sC[k] by omega]
    exact .zsc _
  .simp [go_sem,C,I,J,l,show ¬sc.sC[k]<1 by omega,show ¬ 5<sc.sC[k] by omega]
   refine⟨zWr,fun i h P=>?_⟩;rcases jf.1 P with o|o
   .exact he i h o
   .subst o;exact⟨zOm,zOm⟩
 .have T:k=sc.sC.length:=by omega
  subst T;have j:sc.sC.all (fun a=>decide (1<=a)&&decide (a<=5))=true:=by
   rw[qu];intro a t;obtain⟨i,P,rfl⟩:=zX t;have:=he i P P;simp;omega
  have g:GSc sc:=⟨zOm,fun a t=>by
   have:=qu.1 j a t;simp at this;omega⟩
  simp[go_sem,C,I,J];refine fG (QY sc g) (.zk (qX sc) .nil) ?_;simp only[yq,p,j,show sp.sS.length<=4 by omega,show 1<=sc.sN by omega,show sc.sN<=4 by omega];simp;exact .zsc _
def yV(sc:Sc)(n:Int):List Int->Int->Bool
 | [],_=>true
 |s :: l,x=>decide (yM sc (x % n)=s)&&yV sc n l (x / n)
theorem qaQ(sc:Sc)(n:Int)(l:List Int)(k:Nat)(x:Int)(h:k<l.length):yV sc n (l.drop k) x=(decide (yM sc (x % n)=l[k])&&yV sc n (l.drop (k+1)) (x / n)):=by
 rw[zH h,yV]
def divN(n x:Int):Nat->Int
 | 0=>x
 |j+1=>divN n x j / n
theorem VR{n x m:Int}(o:1<=n)(i:0<=x)(l:x<=m):∀ j,0<=divN n x j/\divN n x j<=m
 | 0=>⟨i,l⟩
 |j+1=>by
  have g:=VR o i l j;have d0:0<=divN n x j / n:=Int.ediv_nonneg g.1 zOm;have d1:divN n x j / n<=divN n x j:=Int.ediv_le_self n g.1;exact⟨d0,Int.le_trans d1 g.2⟩
def vB(sc:Sc)(g:List Int)(r:Rl):Bool:=r.ts.all (fun t=>yV sc (max 1 (sumI sc.sC)) g.reverse t)
theorem qaR(sc:Sc)(g:GSc sc)(l:List Int)(J:l.length<=1000)(r:Rl)(hl:r.ts.length<=9223372036854775807)(hr:∀ t,t∈r.ts->0<=t/\t<=1000000) :
  qd qb 64 [eSc sc,lI l,eRel r] (aB (vB sc l r)):=by
 refine qSU call64 func64 rfl ?_;refine fG (QY sc g) (.zk (qX sc) .nil) ?_;have P:=g.sum sc.sC.length;rw[zt]at P;generalize hn:max 1 (sumI sc.sC)=n;have R:1<=n/\n<=20:=zOm;refine qk.up r.ts.length (fun k st=>st.tm 3 = .ip [lI sc.sC,aI sc.sN]/\st.tm 5 = .ip [aI r.ar,lI r.ts]/\st.tm 1=lI l/\st.tm 7=aI n/\st.tm 8=aI k/\st.mu=[]/\∀(i:Nat) (h:i<r.ts.length),i<k->yV sc n l.reverse r.ts[i]=true) ?_ ?_
 .simp [go_sem]
  omega
 rintro k st hk ⟨e3,e5,e1,e7,e8,hm,he⟩;by_cases o:k<r.ts.length
 .have p:=hr _ (qo o)
  simp[go_sem,e5,e1,e8,hm,o];refine qk.up l.length (fun j st=>st.tm 3 = .ip [lI sc.sC,aI sc.sN]/\st.tm 5 = .ip [aI r.ar,lI r.ts]/\st.tm 1=lI l/\st.tm 7=aI n/\st.tm 8=aI k/\st.mu=[] /\
   st.tm 9=aI (divN n r.ts[k] j)/\st.tm 10=aI (l.length-1-j)/\yV sc n (l.reverse.drop j) (divN n r.ts[k] j)=yV sc n l.reverse r.ts[k]) ?_ ?_
  .simp [go_sem,e3,e5,e1,e7,e8,divN]
   exact zWr
  rintro j st hj ⟨f3,f5,f1,f7,f8,fm,f9,f10,T⟩;have U:=VR R.1 p.1 p.2 j;have a0:=VR R.1 p.1 p.2 (j+1);rw[divN]at a0;generalize a1:divN n r.ts[k] j=y at *
  generalize hc:(l.length:Int)-1-j=c at *
  by_cases a2:j<l.length
  .have a3:j<l.reverse.length:=by simpa using a2
   rw[qaQ _ _ _ _ _ a3]at T;have a8:y.tdiv n=y / n:=Int.tdiv_eq_ediv_of_nonneg U.1;have a9:y.tmod n=y % n:=uO U.1;have m0:=Int.emod_nonneg y (show n≠0 by omega);have m1:=Int.emod_lt_of_pos y (show 0<n by omega);have I:0<=c:=zOm;have a4:c<l.length:=zOm;have a5:c.toNat=l.length-1-j:=zOm;have C:l.length-1-j<l.length:=zOm;have a6:l.reverse[j]=l[l.length-1-j]:=zSp;rw[a6]at T;simp[go_sem,f10,fm,I];refine aQ zKr ?_;simp[go_sem,f3,f7,f9,show n≠0 by omega,a9];refine cA (qaP sc g (y % n) zOm) (.zk (qX sc) (.zs .nil)) ?_;by_cases J:yM sc (y % n)=l[l.length-1-j]
   .simp [go_sem,f3,f5,f1,f7,f8,f9,f10,I,a4,a5,C,J,show n≠0 by omega,a8]
    refine⟨a2,?_,?_,?_⟩
    .rw [divN,a1,zWr]
    .rw [zWr];omega
    .rw [divN,a1];simpa[J] using T
   .simp [go_sem,f1,f10,I,a4,a5,C,J]
    have:vB sc l r=false:=by
     rw[vB,<-Bool.not_eq_true,qu,hn];intro a7;have:=a7 _ (qo o);rw[<-T]at this;simp[J]at this
    rw[this];exact .zsc _
  .have aa:j=l.length:=by omega
   subst aa;simp[go_sem,f3,f5,f1,f7,f8,f10,fm,show ¬ 0<=c by omega];refine⟨o,zWr,fun i h hi=>?_⟩;rcases jf.1 hi with h2|h2
   .exact he i h h2
   .subst h2
    rw[<-T,List.drop_of_length_le zSp,yV]
 .have ab:k=r.ts.length:=by omega
  subst ab;simp[go_sem,e5,e8,hm];have:vB sc l r=true:=by
   rw[vB,qu,hn];intro t ht;obtain⟨i,hi,rfl⟩:=zX ht;exact he i hi hi
  rw[this];exact .zsc _
theorem VS{C:Type}{l:List C}{p:C->Bool}:l.all p=true↔∀(i:Nat) (h:i<l.length),p l[i]=true:=by
 rw[qu];refine⟨fun h i g=>h _ (qo g),fun h a j=>?_⟩;obtain⟨i,g,rfl⟩:=zX j;exact h i g
theorem qaS{C:Type}{l:List C}{p:C->Bool}{i:Nat}(h:i<l.length)(g:p l[i]=false):l.all p=false:=by
 rw[<-Bool.not_eq_true,VS]
 grind
def ve(sp:Sp)(f:Fld):Bool:=f.sS.all (fun s=>decide (0<=s)&&decide (s<sp.sS.length))&&decide (1<=f.sS.length)&&decide (f.sS.length<=3)
theorem qaT{n:Int}{r:Rl}(h:zy n r=true):∀ t,t∈r.ts->0<=t/\t<=1000000:=by
 intro t g;simp only[zy,qi,decide_eq_true_eq,qu]at h;obtain⟨⟨⟨⟨⟨i,o⟩,p⟩,C⟩,j⟩,_⟩:=h;have l:=j t g;have I:=Xu i zOm (powN r.ar) (by unfold powN;omega);unfold powI at l;omega
theorem Ym{sc:Sc}(h:yq sp sc=true):GSc sc:=by
 simp only[yq,qi,decide_eq_true_eq,qu]at h;obtain⟨⟨⟨⟨⟨g,i⟩,j⟩,l⟩,o⟩,_⟩:=h;exact⟨zOm,fun a p=>by grind⟩
abbrev ipSp(sp:Sp):AV := .ip [.lst false (sp.sS.map u9),.lst false (sp.sA.map j6),.lst false sp.sT,.lst false sp.sP]
abbrev ipMd(m:Md):AV := .ip (cMd m)
structure wr (sp:Sp) (m:Md):Prop where
 ns:sp.sS.length<=10
 nf:sp.sA.length<=10
 nt:m.sK.length<=64
 na:m.sc.sC.length<=10
 st:∀(i:Nat) (h:i<m.sK.length),m.sK[i].length<=10/\∀(j:Nat) (h':j<m.sK[i].length),(m.sK[i][j]).ts.length<=200
 fs:∀(i:Nat) (h:i<sp.sA.length),(sp.sA[i]).sS.length<=10
def QZ(sp:Sp)(m:Md):Bool:=decide (sp.sS.length<=10)&&decide (sp.sA.length<=10)&&decide (m.sK.length<=64)&&decide (m.sc.sC.length<=10) &&
 (m.sK.all fun s=>decide (s.length<=10)&&s.all fun r=>decide (r.ts.length<=200))&&sp.sA.all fun f=>decide (f.sS.length<=10)
theorem wt{m:Md}:QZ sp m=true↔wr sp m:=by
 simp only[QZ,qi,decide_eq_true_eq,VS];constructor
 .rintro ⟨⟨⟨⟨⟨g,i⟩,j⟩,l⟩,o⟩,p⟩
  exact⟨g,i,j,l,o,p⟩
 .rintro ⟨g,i,j,l,o,p⟩
  grind
theorem uG{m:Md}(h:¬wr sp m):QZ sp m=false:=by
 rw[<-Bool.not_eq_true,wt];exact h
theorem XZ(sp:Sp)(m:Md):qd qb 18 [eSp sp,eMd m] (aB (QZ sp m)):=by
 refine qSU call18 func18 rfl ?_;by_cases J:(10:Int)<sp.sS.length
 .simp [go_sem,J]
  rw[uG fun h=>zW1 h.ns];exact .zsc _
 by_cases U:(10:Int)<sp.sA.length
 .simp [go_sem,J,U]
  rw[uG fun h=>zW1 h.nf];exact .zsc _
 by_cases h3:(64:Int)<m.sK.length
 .simp [go_sem,J,U,h3]
  rw[uG fun h=>zW1 h.nt];exact .zsc _
 by_cases h4:(10:Int)<m.sc.sC.length
 .simp [go_sem,J,U,h3,h4]
  rw[uG fun h=>zW1 h.na];exact .zsc _
 simp[go_sem,J,U,h3,h4];refine qk.up m.sK.length (fun k st=>st.tm 2=ipSp sp/\st.tm 3=ipMd m/\st.tm 5=aI k/\st.mu=[]/\∀(i:Nat) (h:i<m.sK.length),i<k->m.sK[i].length<=10/\∀(j:Nat) (h':j<m.sK[i].length),(m.sK[i][j]).ts.length<=200) ?_ ?_
 .simp [go_sem]
 rintro k st hk ⟨p,t,C,o,I⟩;by_cases l:k<m.sK.length
 .simp [go_sem,t,C,o,l]
  by_cases h5:(10:Int)<m.sK[k].length
  .simp [go_sem,h5]
   rw[uG fun h=>zW1 ((h.st k l).1)];exact .zsc _
  simp[go_sem,h5];refine qk.up m.sK[k].length (fun j st=>st.tm 2=ipSp sp/\st.tm 3=ipMd m/\st.tm 5=aI k/\st.tm 6=aI j/\st.mu=[]/\∀(i:Nat) (h:i<m.sK[k].length),i<j->(m.sK[k][i]).ts.length<=200) ?_ ?_
  .simp [go_sem,p,t,C]
  clear p t C o st;rintro j st hj ⟨p,t,C,e6,o,P⟩;by_cases g:j<m.sK[k].length
  .by_cases R:(200:Int)<(m.sK[k][j]).ts.length
   .simp [go_sem,t,C,e6,o,l,g,R]
    rw[uG fun h=>zW1 ((h.st k l).2 j g)];exact .zsc _
   simp[go_sem,p,t,C,e6,o,l,g,R];refine⟨zWr,fun i h T=>?_⟩;rcases jf.1 T with r|r
   .exact P i h r
   .subst r;omega
  .have a1:j=m.sK[k].length:=by omega
   simp[go_sem,p,t,C,e6,o,l,g];refine⟨zWr,fun i h T=>?_⟩;rcases jf.1 T with r|r
   .exact I i h r
   .subst r;exact⟨zOm,fun q hq=>P q hq zOm⟩
 .have a0:∀(i:Nat) (h:i<m.sK.length),m.sK[i].length<=10/\∀(j:Nat) (h':j<m.sK[i].length),(m.sK[i][j]).ts.length<=200:=fun i h=>I i h zOm
  simp[go_sem,t,C,o,l];refine qk.up sp.sA.length (fun k st=>st.tm 2=ipSp sp/\st.tm 7=aI k/\st.mu=[]/\∀(i:Nat) (h:i<sp.sA.length),i<k->(sp.sA[i]).sS.length<=10) ?_ ?_
  .simp [go_sem,p]
  clear p t C o I st;rintro j st hj ⟨p,e7,o,I⟩;by_cases g:j<sp.sA.length
  .by_cases R:(10:Int)<(sp.sA[j]).sS.length
   .simp [go_sem,p,e7,o,g,R]
    rw[uG fun h=>zW1 (h.fs j g)];exact .zsc _
   simp[go_sem,p,e7,o,g,R];refine⟨zWr,fun i h T=>?_⟩;rcases jf.1 T with r|r
   .exact I i h r
   .subst r;omega
  .simp [go_sem,p,e7,o,g]
   rw[wt.2 ⟨zOm,zOm,zOm,zOm,a0,fun i h=>I i h zOm⟩];exact .zsc _
theorem qaU(sp:Sp)(f:Fld)(hl:f.sS.length<=9223372036854775807):qd qb 62 [eSp sp,Xg f] (aB (ve sp f)):=by
 refine qSU call62 func62 rfl ?_;refine qk.up f.sS.length (fun k st=>st.tm 2 = .ip [.lst false (sp.sS.map u9),.lst false (sp.sA.map j6),.lst false sp.sT,.lst false sp.sP]/\st.tm 3 = .ip (j6 f)/\st.tm 5=aI k/\st.mu=[]/\∀(i:Nat) (h:i<f.sS.length),i<k->0<=f.sS[i]/\f.sS[i]<sp.sS.length) ?_ ?_
 .simp [go_sem]
 rintro k st hk ⟨e2,r,t,J,he⟩;by_cases g:k<f.sS.length
 .have bad:¬(0<=f.sS[k]/\f.sS[k]<sp.sS.length)->ve sp f=false:=by
   intro R;have:=qaS (l:=f.sS) (i:=k) (p:=fun s=>decide (0<=s)&&decide (s<sp.sS.length)) g zSo;simp only[ve,this,Bool.false_and]
  simp[go_sem,r,t,J,g];refine aQ zKr ?_;by_cases T:f.sS[k]<0
  .simp [go_sem,r,t,g,T]
   rw[bad zOm];exact .zsc _
  by_cases R:(sp.sS.length:Int)<=f.sS[k]
  .simp [go_sem,e2,r,t,g,T,R]
   rw[bad zOm];exact .zsc _
  simp[go_sem,e2,r,t,g,T,R];refine⟨zWr,fun i h P=>?_⟩;rcases jf.1 P with I|I
  .exact he i h I
  .subst I;exact⟨zOm,zOm⟩
 .have U:k=f.sS.length:=by omega
  subst U;have j:f.sS.all (fun s=>decide (0<=s)&&decide (s<sp.sS.length))=true:=VS.2 fun i P=>by simpa using he i P P
  by_cases h1:(1:Int)<=f.sS.length
  .have o:1<=f.sS.length:=by omega
   by_cases I:(f.sS.length:Int)<=3
   .have C:f.sS.length<=3:=by omega
    simp[go_sem,r,t,J,h1,I];simp only[ve,j,o,C];exact .zsc _
   .have C:¬f.sS.length<=3:=by omega
    simp[go_sem,r,t,J,h1,I];simp only[ve,j,o,C];exact .zsc _
  .have o:¬ 1<=f.sS.length:=by omega
   simp[go_sem,r,t,J,h1];simp only[ve,j,o];exact .zsc _
noncomputable def dec(p:Prop):Bool:=@decide p (Classical.propDecidable p)
theorem X0{p:Prop}(h:p):dec p=true:=@decide_eq_true p (Classical.propDecidable p) h
theorem jn{p:Prop}(h:¬p):dec p=false:=@decide_eq_false p (Classical.propDecidable p) h
def wu(sp:Sp)(m:Md)(s i:Nat)(g:s<m.sK.length)(j:i<sp.sA.length)(h:m.sK[s].length=sp.sA.length):Prop:=
 m.sK[s][i].ar=sp.sA[i].sS.length/\zy (sumI m.sc.sC) m.sK[s][i]=true/\vB m.sc sp.sA[i].sS m.sK[s][i]=true/\(sp.sA[i].var=false->(m.sK[0]?.bind (·[i]?))=some m.sK[s][i])
structure MVal (sp:Sp) (m:Md):Prop where
 sc:yq sp m.sc=true
 ns:(m.sK.length:Int)=m.sc.sN
 l0:0<=m.loop
 l1:m.loop<m.sc.sN
 fld:∀(i:Nat) (h:i<sp.sA.length),ve sp sp.sA[i]=true
 len:∀(s:Nat) (h:s<m.sK.length),m.sK[s].length=sp.sA.length
 cell:∀(s i:Nat) (hs:s<m.sK.length) (hi:i<sp.sA.length),wu sp m s i hs hi (len s hs)
theorem X1(sp:Sp)(m:Md)(J:wr sp m):qd qb 19 [eSp sp,eMd m] (aB (dec (MVal sp m))):=by
 refine qSU call19 func19 rfl ?_;refine cA (XY sp m.sc (zW1 J.na)) (.zk (Xi sp) (.zk (qX m.sc) .nil)) ?_;by_cases h1:yq sp m.sc=true
 case neg =>
  rw[jn fun h=>h1 h.sc];simp[go_sem,h1];exact .zsc _
 have g:=Ym h1;by_cases h2:(m.sK.length:Int)=m.sc.sN
 case neg =>
  rw[jn fun h=>h2 h.ns];simp[go_sem,h1,h2];exact .zsc _
 by_cases h3:m.loop<0
 .rw [jn fun h=>zW1 h.l0]
  simp[go_sem,h1,h2,h3];exact .zsc _
 by_cases h4:m.sc.sN<=m.loop
 .rw [jn fun h=>zW1 h.l1]
  simp[go_sem,h1,h2,h3,h4];exact .zsc _
 have ag:=GSc.sum g sp.sS.length;simp[go_sem,h1,h2,h3,h4];refine fG (QY m.sc g) (.zk (qX m.sc) .nil) ?_;refine cC (fun q st=>∃ k,q=sp.sA.length-k/\k<=sp.sA.length/\st.tm 2=ipSp sp/\st.tm 3=ipMd m/\st.tm 5=aI (sumI m.sc.sC)/\st.tm 6=aI (k:Nat)/\(∀(i:Nat) (h:i<sp.sA.length),i<k->ve sp sp.sA[i]=true /\
  ∀(s:Nat) (hs:s<m.sK.length),∃ hl:m.sK[s].length=sp.sA.length,wu sp m s i hs h hl)) sp.sA.length ?_ ?_
 .exact ⟨0,zOm,zOm,zSi,zSi,zSi,zSi,fun i _ h=>zOm⟩
 rintro q st ⟨k,rfl,hk,t,p,e5,P,he⟩;have ah:=J.nf;have ai:=J.nt;by_cases l:k<sp.sA.length
 .have aj:=J.fs k l
  simp[go_sem,t,P,l];generalize st.mu=a1;refine cA (qaU sp sp.sA[k] zOm) (.zk (Xi sp) (.zk (n8 _) .nil)) ?_;by_cases h5:ve sp sp.sA[k]=true
  case neg =>
   rw[jn fun h=>h5 (h.fld k l)];simp[go_sem,h5];exact .zsc _
  simp[go_sem,h5];refine cC (fun q2 st=>∃ s,q2=m.sK.length-s/\s<=m.sK.length/\st.tm 2=ipSp sp/\st.tm 3=ipMd m/\st.tm 5=aI (sumI m.sc.sC)/\st.tm 6=aI (k:Nat)/\st.tm 7 = .ptr a1.length 0/\st.tm 8=aI (s:Nat)/\st.mu[a1.length]?=some (.arr (j6 sp.sA[k])) /\
   (∀(u:Nat) (C:u<m.sK.length),u<s->∃ hl:m.sK[u].length=sp.sA.length,wu sp m u k C l hl)) m.sK.length ?_ ?_
  .exact ⟨0,zOm,zOm,zS1 t,zS1 p,zS1 e5,zS1 P,zSi,zSi,zSi,fun u _ h=>zOm⟩
  clear t p e5 P st;rintro q2 st ⟨s,rfl,hs,t,p,e5,P,e7,e8,a2,I⟩;generalize a1.length=L at *
  by_cases j:s<m.sK.length
  .simp [go_sem,p,e8,j]
   refine aQ zKr ?_;have U:L<st.mu.length:=(qn.1 a2).1;generalize st.mu=ad at *
   by_cases h6:m.sK[s].length=sp.sA.length
   case neg =>
    rw[jn fun h=>h6 (h.len s j)];simp[go_sem,t,p,e8,j,h6];exact .zsc _
   have a6:k<m.sK[s].length:=zOm;have o:ad[L]'U = .arr (j6 sp.sA[k]):=by
    rw[qq U]at a2;exact Option.some.inj a2
   have a3:0<m.sK.length:=zOm;have a4:=(J.st s j).2 k a6;simp[go_sem,t,p,P,e8,l,j,h6];refine aQ zKr ?_;generalize hr:m.sK[s][k]=r at *
   by_cases c1:r.ar=sp.sA[k].sS.length
   case neg =>
    rw[jn fun h=>c1 (hr ▸ (h.cell s k j l).1)];simp[go_sem,e7,o,U,c1];exact .zsc _
   obtain⟨ar,R⟩:=r;simp only at c1 a4;subst c1;simp[go_sem,e5,e7,o,U];refine cA (VB (sumI m.sc.sC) ⟨sp.sA[k].sS.length,R⟩ (by simp only;omega)) (.zs (.zk (zK ⟨sp.sA[k].sS.length,R⟩) .nil)) ?_;by_cases c2:zy (sumI m.sc.sC) ⟨sp.sA[k].sS.length,R⟩=true
   case neg =>
    rw[jn fun h=>c2 (hr ▸ (h.cell s k j l).2.1)];simp[go_sem,c2];exact .zsc _
   simp[go_sem,p,e7,o,U,c2];refine cA (qaR m.sc g sp.sA[k].sS zOm ⟨sp.sA[k].sS.length,R⟩ (by simp only;omega) (qaT c2)) (.zk (qX _) (.zk (qM _) (.zk (zK ⟨sp.sA[k].sS.length,R⟩) .nil))) ?_;by_cases c3:vB m.sc sp.sA[k].sS ⟨sp.sA[k].sS.length,R⟩=true
   case neg =>
    rw[jn fun h=>c3 (hr ▸ (h.cell s k j l).2.2.1)];simp[go_sem,c3];exact .zsc _
   have next:(sp.sA[k].var=false->(m.sK[0]?.bind (·[k]?))=some (⟨sp.sA[k].sS.length,R⟩:Rl))->∀(u:Nat) (C:u<m.sK.length),u<s+1->∃ hl:m.sK[u].length=sp.sA.length,wu sp m u k C l hl:=by
    intro hv u C a5;rcases jf.1 a5 with T|T
    .exact I u C T
    .subst T
     refine⟨h6,?_⟩;unfold wu;rw[hr];exact⟨rfl,c2,c3,hv⟩
   have a7:qx.wrap ((s:Int)+1)=((s+1:Nat):Int):=by rw[zWr];omega
   by_cases c4:sp.sA[k].var=true
   .simp [go_sem,e7,e8,o,U,c3,c4]
    exact Keep.loop (m.sK.length-(s+1)) zOm ⟨s+1,rfl,zOm,zS1 t,zS1 p,zS1 e5,zS1 P,zS1 e7,zS1 a7,zS2 U o,next fun h=>by rw[c4]at h;simp at h⟩
   have a8:sp.sA[k].var=false:=by simpa using c4
   have a9:k<m.sK[0].length:=by
    by_cases ae:s=0
    .subst ae;exact a6
    .obtain ⟨hl,_⟩:=I 0 a3 zOm
     omega
   generalize aa:m.sK[0][k]=r0 at *
   have ab:(m.sK[0]?.bind (·[k]?))=some r0:=by
    rw[qq a3,Option.bind_some,qq a9,aa]
   simp[go_sem,p,P,e7,o,U,c3,a8,a3,a9,aa];refine cA (Xx ⟨sp.sA[k].sS.length,R⟩ r0 (by simp only;omega)) (.zk (zK ⟨sp.sA[k].sS.length,R⟩) (.zk (zK r0) .nil)) ?_;by_cases c5:(⟨sp.sA[k].sS.length,R⟩:Rl)=r0
   case neg =>
    rw[jn fun h=>c5 (by
     have:=(h.cell s k j l).2.2.2 a8;rw[ab,hr]at this;exact(Option.some.inj this).symm)]
    simp[go_sem,c5];exact .zsc _
   simp[go_sem,e8,c5];exact Keep.loop (m.sK.length-(s+1)) zOm ⟨s+1,rfl,zOm,zS1 t,zS1 p,zS1 e5,zS1 P,zS1 e7,zS1 a7,zS2 U o,next fun h=>by rw[ab,c5]⟩
  .have ak:s=m.sK.length:=by omega
   have af:qx.wrap ((k:Int)+1)=((k+1:Nat):Int):=by rw[zWr];omega
   simp[go_sem,p,P,e8,j];refine Keep.loop (sp.sA.length-(k+1)) zOm ⟨k+1,rfl,zOm,zS1 t,zS1 p,zS1 e5,zS1 af,fun i h hi=>?_⟩;rcases jf.1 hi with T|T
   .exact he i h T
   .subst T;exact⟨h5,fun u C=>I u C zOm⟩
 .have al:k=sp.sA.length:=by omega
  simp[go_sem,t,P,l];refine qk.up m.sK.length (fun s st=>st.tm 2=ipSp sp/\st.tm 3=ipMd m/\st.tm 10=aI s/\∀(u:Nat) (C:u<m.sK.length),u<s->m.sK[u].length=sp.sA.length) ?_ ?_
  .simp [go_sem,t,p]
  clear t p e5 P st;rintro s st hs ⟨t,p,a0,I⟩;by_cases j:s<m.sK.length
  .simp [go_sem,p,a0,j]
   refine aQ zKr ?_;by_cases h6:m.sK[s].length=sp.sA.length
   case neg =>
    rw[jn fun h=>h6 (h.len s j)];simp[go_sem,t,p,a0,j,h6];exact .zsc _
   simp[go_sem,t,p,a0,j,h6];refine⟨zWr,fun u C a5=>?_⟩;rcases jf.1 a5 with T|T
   .exact I u C T
   .subst T;exact h6
  .rw [X0 ⟨h1,h2,zOm,zOm,fun i h=>(he i h zOm).1,fun u C=>I u C zOm,fun u i C hi=>((he i hi zOm).2 u C).2⟩]
   simp[go_sem,p,a0,j];exact .zsc _
def spOf(ts:TS):Sp:=⟨ts.sS,ts.sA,ts.sT.map cPd,ts.sP.map cFa,Vx ts.sT,Vy ts.sP⟩
end
end E9
namespace Y13
open Y1 Y2 P1
def Q0(c:Ck)(s:Scp)(n:Nd):Res:=
 if (c.ts.sT.any fun p=>decide (p.name=n.name))=true then
  match zh c n.name with
  |none => .error (45,n.pos)
  |some p=>match c.ts.sT[p]? with
   |none => .error (45,n.pos)
   |some g=>if g.params.length=n.sM.length then yf c s n.pos g.params n.sM else .error (45,n.pos)
 else .error (40,n.pos)
def endC:Res->AEnd
 | .ok _ => .ret (.tup [])
 | .error e => .pan (Z7 e.1 e.2)
@[go_sem] theorem endC_ok(k:Option Kd):endC (.ok k) = .ret (.tup []):=rfl
@[go_sem] theorem qh6(e:Dg):endC (.error e) = .pan (Z7 e.1 e.2):=rfl
end Y13
namespace Y14
open P1 P2
structure VT (ns:Nat) (env:List (cD×Int)):Prop where
 len:env.length<=1000000
 r:∀ p,p∈env->0<=p.2/\p.2<ns
theorem qaV{ns:Nat}{env:List (cD×Int)}(h:VT ns env):ScOk ns (vZ env):=by
 have:∀(l:List (cD×Int)) (s:Scp),(∀ p,p∈l->0<=p.2/\p.2<(ns:Int))->ScOk ns s->ScOk ns (l.foldl (fun s p=>(p.1,kOf [p.2]) :: s) s):=by
  intro l;induction l with
  |nil=>intro s _ i;exact i
  |cons a l t =>
   intro s j i;refine t _ (fun p C=>j p (qJ _ C)) fun v g=>?_
   rcases qp.1 g with rfl|g
   .exact ⟨VM zSp zSp (fun x o=>by rw[qV]at o;subst o;exact j a (q8 ..)),rfl⟩
   .exact i v g
 exact this env [] h.r fun v g=>absurd g zb
end Y14
namespace Y15
section
variable {C:Type}
def repL(g:C->C->Bool)(l:List C):List Bool:=(qm l.length).map fun i=>match l[i]? with|some x=>(l.take i).any fun y=>g x y|none=>false
theorem vC(g:C->C->Bool)(l:List C):(repL g l).length=l.length:=by simp[repL]
theorem X2(g:C->C->Bool)(l:List C){i:Nat}(h:i<l.length):(repL g l)[i]?=some ((l.take i).any fun y=>g l[i] y):=by
 simp[repL,h]
end
end Y15
namespace Y16
open P1 Y1 Y9 Y15
abbrev cDg(d:Dg):List AV:=[aI d.1,aI d.2]
def dups(l:List Bool):List Dg:=(l.filter id).map fun _=>(41,0)
def repB{C:Type}(g:C->C->Bool)(l:List C)(i:Nat):List Bool:=((repL g l).take (i+1)).drop i
def rp(d:Dg):List Dg:=if d.1=0 then [] else [d]
def jo(ts:TS)(i:Nat):List Dg:=match ts.sT[i]? with
 |some p=>dups (repB (fun x y:Pd=>decide (x.name=y.name)) ts.sT i)++(dups (repL (fun x y:cD×Int=>decide (x.1=y.1)) p.params)++rp (v5 (mkCk ts i) p.params p.body))
 |none=>[]
def vD(ts:TS)(g:List (cD×Nd))(i:Nat):List Dg:=match g[i]? with
 |some f=>dups (repB (fun x y:cD×Nd=>decide (x.1=y.1)) g i)++rp (uC ts [] f.2)
 |none=>[]
def Yn(ts:TS):List Dg:=
 dups (repL (fun x y:cD×Bool=>decide (x.1=y.1)) ts.sS)++(dups (repL (fun x y:Fld=>decide (x.name=y.name)&&decide (x.sS=y.sS)) ts.sA) ++
  ((qm ts.sT.length).flatMap (jo ts)++(qm ts.sP.length).flatMap (vD ts ts.sP)))
abbrev lDg(l:List Dg):AV := .lst false (l.map cDg)
theorem vE(l:List Bool):(dups l).length<=l.length:=by
 grind [dups,yP,List.length_filter_le]
theorem X3(d:Dg):(rp d).length<=1:=by unfold rp;split<;>simp
theorem VU(f:Nat->List Dg)(hf:∀ i,(f i).length<=10):∀ k,((qm k).flatMap f).length<=10*k
 | 0=>zSp
 |k+1=>by
  rw[List.range_succ,List.flatMap_append,zc];have:=VU f hf k;have:=hf k;simp only[List.flatMap_cons,List.flatMap_nil,List.append_nil];omega
theorem X4{C:Type}(g:C->C->Bool)(l:List C)(i:Nat):(repB g l i).length<=1:=by
 grind [repB,List.length_drop,vM]
theorem X5{ts:TS}(h:okTS ts)(i:Nat):(jo ts i).length<=10:=by
 unfold jo;split
 .rename_i p g
  have j:=(h.pl p (qY g)).1
  grind [vE,repB,decide,X4,repL,vC,X3]
 .simp
theorem qaW(ts:TS)(g:List (cD×Nd))(i:Nat):(vD ts g i).length<=10:=by
 grind [vD,vE,repB,decide,X4,X3,uC]
end Y16
namespace YU
open Go.RowKit
end YU
namespace YV
end YV
namespace YW
open P2 Y2 Y3
theorem aM{ns:Nat}{k:Kd}(h:okKd ns k)(C:ns<=4):k.ts.length<=64:=by
 have o:∀ t,t∈k.ts->t∈([0,1,2,3]:List Int).flatMap fun a=>([0,1,2,3]:List Int).flatMap fun b=>([0,1,2,3]:List Int).map fun c=>[a,b,c]:=fun t I=>by
  obtain⟨l,rfl,j,i⟩:=h.ts t I;have J:=h.ar.2;have g:∀ x:Int,0<=x->x<ns->x∈([0,1,2,3]:List Int):=fun x p r=>zSo
  match l,j,i with
  | [],j,i=>simp[pad]
  | [a],j,i =>
   have:=g a (i a zSp).1 (i a zSp).2;simp only[Jf,qs];exact⟨a,this,0,zSp,0,zSp,by simp[pad]⟩
  | [a,b],j,i =>
   have p:=g a (i a zSp).1 (i a zSp).2;have r:=g b (i b zSp).1 (i b zSp).2;simp only[Jf,qs];exact⟨a,p,b,r,0,zSp,by simp[pad]⟩
  | [a,b,c],j,i =>
   have p:=g a (i a zSp).1 (i a zSp).2;have r:=g b (i b zSp).1 (i b zSp).2;have P:=g c (i c zSp).1 (i c zSp).2;simp only[Jf,qs];exact⟨a,p,b,r,c,P,by simp[pad]⟩
  |_ :: _ :: _ :: _ :: _,j,i=>simp at j;omega
 have:=List.Nodup.length_le_of_subset h.nd o;simpa using this
end YW
namespace YX
end YX
namespace Q1
open P2 Y1 Y2 Y6
abbrev aU(x:Int):AV := .sc (.int .u8 x)
theorem kindU(op:Int):qd qb 136 [aI op] (aU (kd op)):=by
 refine qSU call136 func136 rfl ?_;unfold kd;by_cases g:1<=op<;>by_cases i:op<=15<;>by_cases j:20<=op<;>by_cases l:op<=23<;>by_cases o:30<=op<;>by_cases p:op<=51<;>first|omega | (simp[go_sem,g,i,j,l,o,p];exact .zsc _)
def kwL:List cD:=[⟨#[115,111,114,116]⟩,⟨#[111,114,100,101,114,101,100]⟩,⟨#[118,97,114]⟩,⟨#[102,105,101,108,100]⟩,⟨#[112,114,101,100]⟩,⟨#[102,97,99,116]⟩,⟨#[97,108,108]⟩,⟨#[115,111,109,101]⟩,⟨#[110,111]⟩,⟨#[111,110,101]⟩,⟨#[108,111,110,101]⟩,⟨#[97,108,119,97,121,115]⟩,⟨#[101,118,101,110,116,117,97,108,108,121]⟩,⟨#[97,102,116,101,114]⟩,⟨#[117,110,116,105,108]⟩,⟨#[110,111,110,101]⟩,⟨#[117,110,105,118]⟩,⟨#[105,100,101,110]⟩,⟨#[105,110]⟩,⟨#[110,111,116]⟩,⟨#[116,114,117,101]⟩,⟨#[102,97,108,115,101]⟩]
def kwB(s:cD):Bool:=kwL.any fun x=>decide (x=s)
theorem qaX(s:cD):qd qb 160 [aS s] (aB (kwB s)):=by
 refine qSU call160 func160 rfl ?_;have g:kwL.length=22:=rfl;refine fZ 22 (fun k st=>st.tm 0=aS s/\st.tm 3 = .lst true (kwL.map fun s=>[aS s])/\st.tm 4=aI k/\st.mu=[]/\∀ j x,j<k->kwL[j]?=some x->x≠s) ?_ ?_
 .refine ⟨zSi,?_,zSi,zSi,fun j x r=>absurd r zOm⟩
  simp[go_sem,kwL]
 .rintro k st hk ⟨I,C,J,P,hI⟩
  unfold kwB;generalize hK:kwL=K at *
  by_cases R:k=22
  .subst R
   have T:(K.any fun x=>decide (x=s))=false:=by
    rw[List.any_eq_false];intro x p;obtain⟨j,r⟩:=List.mem_iff_getElem?.1 p;simpa using hI j x (by have:=(qn.1 r).1;omega) r
   rw[T];simp[go_sem,C,J,P,g];exact .zsc _
  .have t:k<K.length:=by omega
   have i:k<22:=zOm;have l:(k:Int)<22:=zOm;have w1:=zWk k;by_cases p:K[k]=s
   .have U:(K.any fun x=>decide (x=s))=true:=List.any_eq_true.2 ⟨K[k],qo t,zUs p⟩
    rw[U];simp[go_sem,I,C,J,P,g,i,l,p];exact .zsc _
   .simp [go_sem,I,C,J,P,g,i,l,j7 p,w1]
    try refine⟨i,aK ?_⟩
    try refine aK ?_
    refine⟨zS1 I,zS1 C,zSi,zSi,fun j x r o=>?_⟩;by_cases a0:j=k
    .subst a0
     rw[qq t]at o;cases o;exact p
    .exact hI j x zOm o
def bys(l:List Int):cD:=⟨(l.map fun x=>UInt8.ofNat x.toNat).toArray⟩
theorem qaY(l:List Int)(x:Int):bys (l++[x])=bys l++⟨#[UInt8.ofNat x.toNat]⟩:=by
 apply ByteArray.ext;simp[bys]
theorem X6(l:List Int):(bys l).size=l.length:=by simp[bys,ByteArray.size]
def shpV(op:Int)(nk:Nat):AV:=match shp op nk with
 |some l => .tup [aS (bys l),aB true]
 |none => .tup [aS ⟨#[]⟩,aB false]
theorem Yo(mu:Mu)(a:cD)(b:Bool):Rd mu (.tup [aS a,aB b]) (.tup [aS a,aB b]) := .hf _ (HF.tup fun c g=>by simp at g;rcases g with rfl|rfl<;>exact HF.sc _)
theorem qaZ(nk:Nat)(J:nk<=100000):qd qb 135 [aI 47,aI nk] (shpV 47 nk):=by
 refine qSU call135 func135 rfl ?_;refine fZ (min nk 401) (fun k st=>st.tm 1=aI nk/\st.tm 6=aS (bys (zd k 101))/\st.tm 7=aI k) ?_ ?_
 .exact ⟨zSi,by simp[go_sem,bys],zSi⟩
 .rintro k st hk ⟨i,j,l⟩
  by_cases o:k=min nk 401
  .have P:shpV 47 nk = .tup [aS (bys (zd k 101)),aB true]:=by
    rw[o];rfl
   rw[P];by_cases h1:nk<=k
   .have p:¬k<nk:=by omega
    simp[go_sem,i,j,l,p];exact Yo _ _ _
   .have R:k=401:=by omega
    subst R;have h3:401<nk:=zOm;have T:(401:Int)<nk:=zOm;simp[go_sem,i,j,l,T];exact Yo _ _ _
  .have r:k<nk:=by omega
   have I:k<401:=zOm;have g:(k:Int)<401:=zOm;have U:=zWk k;have t:(bys (zd k 101)).size+1<=9223372036854775807:=by rw[X6,List.length_replicate];omega
   have C:bys (zd k 101)++⟨#[101]⟩=bys (zd (k+1) 101):=by
    rw[List.replicate_succ',qaY];rfl
   generalize bys (zd k 101)=B at *
   simp[go_sem,i,j,l,r,g,t,U];refine⟨zOm,aK ?_⟩;exact⟨zS1 i,zS1 C,zSi⟩
theorem qa0(op:Int)(nk:Nat)(g:nk<=100000):qd qb 135 [aI op,aI nk] (shpV op nk):=by
 by_cases h47:op=47
 .subst h47;exact qaZ nk g
 by_cases o:1<=op/\op<=51
 .have j:op=1\/op=2\/op=3\/op=4\/op=5\/op=6\/op=7\/op=8\/op=9\/op=10\/op=11\/op=12\/op=13\/op=14\/op=15\/op=16\/op=17\/op=18\/op=19\/op=20\/op=21\/op=22\/op=23\/op=24\/op=25\/op=26\/op=27\/op=28\/op=29\/op=30\/op=31\/op=32\/op=33\/op=34\/op=35\/op=36\/op=37\/op=38\/op=39\/op=40\/op=41\/op=42\/op=43\/op=44\/op=45\/op=46\/op=48\/op=49\/op=50\/op=51:=by omega
  rcases j with rfl|rfl|rfl|rfl|rfl|rfl|rfl|rfl|rfl|rfl|rfl|rfl|rfl|rfl|rfl|rfl|rfl|rfl|rfl|rfl|rfl|rfl|rfl|rfl|rfl|rfl|rfl|rfl|rfl|rfl|rfl|rfl|rfl|rfl|rfl|rfl|rfl|rfl|rfl|rfl|rfl|rfl|rfl|rfl|rfl|rfl|rfl|rfl|rfl|rfl
  all_goals
   refine qSV call135 func135 rfl ?_;simp[go_sem,shpV,shp];exact Yo _ _ _
 .have i:∀ c:Int,1<=c->c<=51->(op=c)=False:=fun c p r=>eq_false zOm
  have l:shp op nk=none:=by
   unfold shp
   repeat rw[zIn]
  rw[shpV,l];refine qSV call135 func135 rfl ?_;simp[go_sem,i];exact Yo _ _ _
end Q1
namespace Q2
open P2 Y1 Q1
def fitB(op:Int)(ks:List Nd):Bool:=decide (shp op ks.length=some (ks.map fun k=>kd k.op))
theorem qa1(l:List Int)(g:∀ x,x∈l->0<=x/\x<256)(i:Nat)(h:i<l.length)(j:i<(bys l).data.size):(((bys l).data[i]).toNat:Int)=l[i]:=by
 have o:=g l[i] (qo h);simp only[bys,List.getElem_toArray,List.getElem_map,UInt8.toNat_ofNat'];omega
theorem qa2{op:Int}{nk:Nat}{l:List Int}(h:shp op nk=some l):∀ x,x∈l->0<=x/\x<256:=by
 unfold shp at h
 repeat' split at h
 all_goals first
  | (cases h;done)
  | (cases h;intro x g;cases g;done)
  | (cases h;intro x g;rw[List.mem_replicate]at g;omega)
  | (cases h;intro x g;simp at g;omega)
theorem uH(op:Int)(ks:List Nd)(hk:ks.length<=1000):qd qb 105 [aI op,lNd ks] (aB (fitB op ks)):=by
 have C:=qa0 op ks.length zOm;unfold shpV at C;cases o:shp op ks.length with
 |none =>
  simp only[o]at C;have hf:fitB op ks=false:=by simp[fitB,o]
  rw[hf];refine qSU call105 func105 rfl ?_;refine fG C (.zs (.zs .nil)) ?_;exact .zsc _
 |some l =>
  simp only[o]at C;have i:=X6 l;have I:=qa1 l (qa2 o);generalize bys l=B at *
  refine qSU call105 func105 rfl ?_;refine cA C (.zs (.zs .nil)) ?_;by_cases t:l.length=ks.length
  .simp [go_sem,i,t]
   refine fZ ks.length (fun k st=>st.tm 1=lNd ks/\st.tm 5=aS B/\st.tm 7=aI k/\∀ j,j<k->(ks[j]?).map (fun k=>kd k.op)=l[j]?) ?_ ?_
   .exact ⟨zSi,zSi,zSi,fun j P=>absurd P zOm⟩
   .rintro k st hk ⟨R,U,J,hI⟩
    by_cases a0:k=ks.length
    .subst a0
     have hf:fitB op ks=true:=by
      rw[fitB,o,decide_eq_true];congr 1;apply List.ext_getElem?;intro j;by_cases P:j<ks.length
      .rw [qZ,hI j P]
      .rw [je zOm,je zSo]
     rw[hf];simp[go_sem,R,J];exact .zsc _
    .have g:k<ks.length:=by omega
     have w1:=zWk k;simp[go_sem,R,J,g];refine aQ zKr ?_;simp[go_sem,R,J,g];refine cA (kindU ks[k].op) (.zs .nil) ?_;have p:k<l.length:=zOm;have a1:k<B.data.size:=by have:B.data.size=l.length:=i;omega
     have hg:=I k p a1;by_cases T:kd ks[k].op=l[k]
     .have r:kd ks[k].op=((B.data[k]).toNat:Int):=by rw[hg];exact T
      simp[go_sem,U,J,g,i,t,r,w1];refine aK ?_;refine⟨zS1 R,zS1 U,zSi,fun j P=>?_⟩;by_cases a2:j=k
      .subst a2
       rw[qq g,qq p,qU,T]
      .exact hI j zOm
     .have r:¬kd ks[k].op=((B.data[k]).toNat:Int):=by rw[hg];exact T
      have hf:fitB op ks=false:=by
       rw[fitB,o,decide_eq_false];intro e;injection e with e;apply T;have:l[k]?=some (kd ks[k].op):=by rw[e,qZ,qq g,qU]
       rw[qq p]at this;simpa using this.symm
      rw[hf];simp[go_sem,U,J,g,i,t,r];exact .zsc _
  .have hf:fitB op ks=false:=by
    rw[fitB,o,decide_eq_false];intro e;injection e with e;rw[e]at t;simp at t
   rw[hf];simp[go_sem,i,t];exact .zsc _
end Q2
namespace Q3
open Y1 Q1
def letC(c:Int):Bool:=(decide (97<=c)&&decide (c<=122))||(decide (65<=c)&&decide (c<=90))
def chB(i:Nat)(c:Int):Bool:=letC c||(!decide (i=0)&&(decide (c=95)||(decide (48<=c)&&decide (c<=57))))
def jc(s:cD):Bool:=decide (1<=s.size)&&decide (s.size<=16)&&!kwB s&&(qm s.size).all fun i=>match s.data[i]? with|some c=>chB i c.toNat|none=>true
theorem qa3(s:cD):qd qb 134 [aS s] (aB (jc s)):=by
 refine qSV call134 func134 rfl ?_;by_cases h0:s.size=0
 .have r:jc s=false:=by simp[jc,h0]
  rw[r];simp[go_sem,h0];exact .zsc _
 by_cases aa:16<s.size
 .have r:jc s=false:=by
   have:¬s.size<=16:=zOm;simp[jc,this]
  rw[r];have l:(16:Int)<s.size:=zOm;simp[go_sem,h0,l];exact .zsc _
 have l:¬(16:Int)<s.size:=zOm;simp[go_sem,h0,l];refine cA (qaX s) (.zs .nil) ?_;cases hk:kwB s with
 |true =>
  have r:jc s=false:=by simp[jc,hk]
  rw[r];simp[go_sem];exact .zsc _
 |false =>
  simp[go_sem];refine fZ s.size (fun k st=>st.tm 0=aS s/\st.tm 3=aI k/\∀ j c,j<k->s.data[j]?=some c->chB j c.toNat=true) ?_ ?_
  .exact ⟨zSi,zSi,fun j c hj=>absurd hj zOm⟩
  .rintro k st ab ⟨e0,e2,hI⟩
   by_cases a0:k=s.size
   .have r:jc s=true:=by
     simp only[jc,hk,Bool.not_false,Bool.and_true,qi,decide_eq_true_eq,qu,zY];refine⟨⟨zOm,zOm⟩,fun i hi=>?_⟩;cases hc:s.data[i]? with
     |none=>rfl
     |some c=>exact hI i c zOm hc
    rw[r];simp[go_sem,e0,e2,a0];exact .zsc _
   .have o:k<s.size:=by omega
    have T:k<s.data.size:=o;have w1:=zWk k;have z1:qx.wrap 1=1:=rfl;have U:s.data[k]?=some s.data[k]:=Array.getElem?_eq_getElem T;simp[go_sem,e0,e2,o];generalize hc:((s.data[k]).toNat:Int)=c at *
    cases g:chB k c with
    |false =>
     have r:jc s=false:=by
      rw[jc,Bool.and_eq_false_iff];refine .inr (List.all_eq_false.2 ⟨k,zY.2 o,?_⟩);simp only[U,hc,g];simp
     rw[r];by_cases C:97<=c<;>by_cases I:c<=122<;>by_cases J:65<=c<;>by_cases P:c<=90<;>by_cases R:c=95<;>by_cases a6:c<48<;>by_cases a7:57<c<;>by_cases t:k=0<;>first|omega | (exfalso;simp[chB,letC,C,I,J,P,R,a6,a7,t]at g;done) | (exfalso;simp[chB,letC,C,I,J,P,R,a6,a7,t]at g;omega)|skip
     all_goals
      simp[go_sem,e2,C,I,J,P,R,a6,a7,t];exact .zsc _
    |true =>
     have p:∀ j d,j<k+1->s.data[j]?=some d->chB j d.toNat=true:=fun j d hj hd=>by
      by_cases a9:j=k
      .subst a9
       rw[U]at hd;cases hd;rw[hc];exact g
      .exact hI j d zOm hd
     by_cases C:97<=c<;>by_cases I:c<=122<;>by_cases J:65<=c<;>by_cases P:c<=90<;>by_cases R:c=95<;>by_cases a6:c<48<;>by_cases a7:57<c<;>by_cases t:k=0<;>first|omega | (exfalso;simp[chB,letC,C,I,J,P,R,t]at g;done) | (exfalso;simp[chB,letC,C,I,J,P,R,t]at g;omega)|skip
     all_goals
      simp[go_sem,e2,C,I,J,P,R,a6,a7,t,w1,z1]
      first
       |exact⟨o,aK ⟨zS1 e0,zSi,p⟩⟩
       | (subst t;exact⟨o,aK ⟨zS1 e0,zSi,fun j d hj hd=>p j d zOm hd⟩⟩)
end Q3
namespace Q4
open P2 Y1 Y2 Y9 Q2 Q3
def wv(op:Int):Bool:=decide (op=1)||decide (op=15)||decide (op=45)||decide (op=46)||decide (op=47)
def numB(op n:Int):Bool:=if op=2 then decide (1<=n)&&decide (n<=3) else if op=20 then decide (-64<=n)&&decide (n<=64) else decide (n=0)
def ownB(n:Nd):Bool:=if wv n.op=jc n.name/\(wv n.op=true\/n.name=⟨#[]⟩) then numB n.op n.n else false
theorem ownU(n:Nd):qd qb 104 [eNd n] (aB (ownB n)):=by
 refine qSV call104 func104 rfl ?_;have j:=qa3 n.name;generalize J:jc n.name=N at *
 by_cases p:n.op=1\/n.op=15\/n.op=45\/n.op=46\/n.op=47
 .have l:wv n.op=true:=by grind [wv]
  have r:¬n.op=2:=zOm;have i:¬n.op=20:=zOm;rcases p with h|h|h|h|h
  all_goals
   simp[go_sem,h];refine cA j (.zs .nil) ?_;cases N with
   |true =>
    have g:ownB n=decide (n.n=0):=by grind [ownB,numB]
    rw[g];simp[go_sem,h];exact .zsc _
   |false =>
    have g:ownB n=false:=by grind [ownB]
    rw[g];simp[go_sem];exact .zsc _
 .simp only[not_or]at p
  obtain⟨d1,d2,d3,d4,d5⟩:=p;have l:wv n.op=false:=by grind [wv]
  simp[go_sem,d1,d2,d3,d4,d5];refine cA j (.zs .nil) ?_;cases N with
  |true =>
   have g:ownB n=false:=by grind [ownB]
   rw[g];simp[go_sem];exact .zsc _
  |false =>
   by_cases o:n.name=⟨#[]⟩
   .have g:ownB n=numB n.op n.n:=by
     simp_all[ownB,if_pos]
    rw[g];unfold numB;by_cases r:n.op=2
    .by_cases t:1<=n.n<;>by_cases C:n.n<=3<;>(simp[go_sem,r,o,t,C];exact .zsc _)
    .by_cases i:n.op=20
     .by_cases t : -64<=n.n<;>by_cases C:n.n<=64<;>(simp[go_sem,i,o,t,C];exact .zsc _)
     .simp [go_sem,r,i,o]
      exact .zsc _
   .have g:ownB n=false:=by simp[ownB,l,o]
    rw[g];have I:n.name.toList.isEmpty=false:=by simpa using j7 o
    simp[go_sem,I];exact .zsc _
mutual
def cntN:Nd->Int->Int
 | .mk _ _ _ ks _,left=>zN ks left 1
def zN:List Nd->Int->Int->Int
 | [],_,sum=>sum
 |k :: ks,left,sum=>if sum<=left then zN ks left (sum+cntN k (left-sum)) else sum
end
theorem X7(n:Nd)(left:Int):cntN n left=zN n.sM left 1:=by
 obtain⟨op,g,i,ks,p⟩:=n;simp[cntN,Nd.sM]
mutual
theorem VV:∀(n:Nd) (left:Int),1<=cntN n left/\(cntN n left<=left+1\/cntN n left=1)
 | .mk _ _ _ ks _,left=>by
  simp only[cntN];have:=VW ks left 1;omega
theorem VW:∀(ks:List Nd) (left sum:Int),sum<=zN ks left sum/\(zN ks left sum<=left+1\/zN ks left sum=sum)
 | [],left,sum=>by simp[zN]
 |k :: ks,left,sum=>by
  simp only[zN];split
  .have g:=VV k (left-sum)
   have i:=VW ks left (sum+cntN k (left-sum));omega
  .omega
end
theorem X8:∀(m:Nat) (n:Nd),szN n<=m->∀ left:Int,-1000000<=left/\left<=1000000->qd qb 75 [eNd n,aI left] (aI (cntN n left))
 | 0,n,J,_,_=>by obtain⟨op,nm,i,ks,p⟩:=n;simp[szN]at J
 |m+1,n,J,left,hl=>by
  have T:∀ k,k∈n.sM->∀ left:Int,-1000000<=left/\left<=1000000->qd qb 75 [eNd k,aI left] (aI (cntN k left)):=fun k P =>
   X8 m k (zW1 (jC P))
  rw[X7];generalize hR:zN n.sM left 1=R;refine qSU call75 func75 rfl ?_;refine fZ n.sM.length (fun k st=>∃ sum:Int,st.tm 1=aI left/\st.tm 2 = .ip (cNd n)/\st.tm 5=aI sum/\st.tm 6=aI k/\(k:Int)+1<=sum/\(sum<=left+1\/sum=1)/\zN (n.sM.drop k) left sum=R) ?_ ?_
  .simp [go_sem, *]
  .rintro k st P ⟨sum,t,l,C,o,U,a0,j⟩
   by_cases I:k=n.sM.length
   .subst I
    rw[yQ]at j;simp only[zN]at j;subst j;simp[go_sem,l,C,o];exact .zsc _
   .have g:k<n.sM.length:=by omega
    rw[zH g]at j;simp only[zN]at j;by_cases r:sum<=left
    .rw [if_pos r]at j
     have w1:=zWk k;have w2:qx.wrap (left-sum)=left-sum:=zWr;have a1:=VV n.sM[k] (left-sum);have w3:qx.wrap (sum+cntN n.sM[k] (left-sum))=sum+cntN n.sM[k] (left-sum):=zWr;simp[go_sem,t,l,C,o,g,r,w2];refine cA (T n.sM[k] (qo g) (left-sum) ⟨zOm,zOm⟩) (.zk (zV _) (.zs .nil)) ?_;simp[go_sem,o,w1,w3];refine⟨g,aK ?_⟩;exact⟨sum+cntN n.sM[k] (left-sum),zS1 t,zS1 l,zSi,zSi,zOm,zOm,j⟩
    .rw [if_neg r]at j
     subst j;simp[go_sem,t,l,C,o,g,r];exact .zsc _
mutual
def forN:Nd->Int->Bool
 | .mk op j i ks p,g=>if g<1 then false else ownB (.mk op j i ks p)&&(fitB op ks&&jF ks (g-1))
def jF:List Nd->Int->Bool
 | [],_=>true
 |k :: ks,g=>forN k g&&jF ks g
end
theorem Yp(n:Nd)(g:Int):forN n g=if g<1 then false else ownB n&&(fitB n.op n.sM&&jF n.sM (g-1)):=by
 obtain⟨op,j,i,ks,p⟩:=n;simp[forN,Nd.sM,Nd.op]
theorem X9:∀(m:Nat) (n:Nd),szN n<=m->jD n->∀ g:Int,-1000000<=g/\g<=1000000->qd qb 76 [eNd n,aI g] (aB (forN n g))
 | 0,n,P,_,_,_=>by obtain⟨op,nm,i,ks,p⟩:=n;simp[szN]at P
 |m+1,n,P,T,g,hl=>by
  have ih:∀ k,k∈n.sM->∀ g:Int,-1000000<=g/\g<=1000000->qd qb 76 [eNd k,aI g] (aB (forN k g)):=fun k I =>
   X9 m k (zW1 (jC I)) (T.kid I)
  have C:=T.len;rw[Yp];have l:=ownU n;have o:=uH n.op n.sM C;by_cases j:g<1
  .rw [if_pos j]
   refine qSV call76 func76 rfl ?_;simp[go_sem,j];exact .zsc _
  rw[if_neg j];cases U:ownB n with
  |false =>
   rw[U]at l;refine qSV call76 func76 rfl ?_;simp[go_sem,j];refine fG l (.zk (zV _) .nil) ?_;exact .zsc _
  |true =>
   rw[U]at l;cases hf:fitB n.op n.sM with
   |false =>
    rw[hf]at o;refine qSV call76 func76 rfl ?_;simp[go_sem,j];refine fG l (.zk (zV _) .nil) ?_;refine fG o (.zs (.zk (Xn _) .nil)) ?_;exact .zsc _
   |true =>
    rw[hf]at o;have wl:qx.wrap (g-1)=g-1:=zWr;generalize hR:jF n.sM (g-1)=R;simp only[Bool.true_and];refine qSV call76 func76 rfl ?_;simp[go_sem,j];refine fG l (.zk (zV _) .nil) ?_;refine fG o (.zs (.zk (Xn _) .nil)) ?_;refine fZ n.sM.length (fun k st=>st.tm 1=aI g/\st.tm 2 = .ip (cNd n)/\st.tm 5=aI k/\jF (n.sM.drop k) (g-1)=R) ?_ ?_
    .simp [go_sem, *]
    .rintro k st I ⟨e1,e2,e5,r⟩
     by_cases J:k=n.sM.length
     .subst J
      rw[yQ]at r;simp only[jF]at r;subst r;simp[go_sem,e2,e5];exact .zsc _
     .have t:k<n.sM.length:=by omega
      have w1:=zWk k;rw[zH t]at r;simp only[jF]at r;have hi:=ih n.sM[k] (qo t) (g-1) ⟨zOm,zOm⟩;simp[go_sem,e1,e2,e5,t,wl];refine cA hi (.zk (zV _) (.zs .nil)) ?_;cases hq:forN n.sM[k] (g-1) with
      |true =>
       simp_all[go_sem,Bool.true_and,aK]
      |false =>
       rw[hq,Bool.false_and]at r;subst r;simp[go_sem];exact .zsc _
theorem Ka:∀(ks:List Nd) (left sum:Int),0<=sum->zN ks left sum<=left->sum+ks.length<=zN ks left sum/\∀ k,k∈ks->∃ g,g<=left/\cntN k g<=g
 | [],left,sum,_,h=>by simp[zN]
 |k :: ks,left,sum,o,h=>by
  simp only[zN]at h⊢;split at h
  .rename_i j
   rw[if_pos j];have p:=VV k (left-sum);have l:=Ka ks left (sum+cntN k (left-sum)) zOm h;have r:=l.1;refine⟨by grind,fun q i=>?_⟩;rcases qp.1 i with rfl|i
   .grind
   grind
  .omega
theorem Kb:∀(m:Nat) (n:Nd) (left:Int),szN n<=m->left<=1000->cntN n left<=left->jD n
 | 0,n,_,g,_,_=>by obtain⟨op,nm,i,ks,p⟩:=n;simp[szN]at g
 |m+1,n,left,g,C,h=>by
  rw[X7]at h;obtain⟨I,l⟩:=Ka n.sM left 1 zOm h;refine .mk n zOm fun k j=>?_
  obtain⟨o,r,t⟩:=l k j;exact Kb m k o (zW1 (jC j)) zOm t
def zS(n:Nd):Bool:=decide (cntN n 400<=400)&&forN n 24
theorem Kc(n:Nd):qd qb 36 [eNd n] (aB (zS n)):=by
 have i:=X8 (szN n) n (qr _) 400 zOm;by_cases h:cntN n 400<=400
 .have j:=Kb (szN n) n 400 (qr _) zOm h
  have hf:=X9 (szN n) n (qr _) j 24 zOm;have g:zS n=forN n 24:=by simp[zS,h]
  rw[g];refine qSU call36 func36 rfl ?_;refine cA i (.zk (zV _) (.zs .nil)) ?_;simp[go_sem,h];refine fG hf (.zk (zV _) (.zs .nil)) ?_;exact .zsc _
 .have g:zS n=false:=by simp[zS,h]
  rw[g];refine qSU call36 func36 rfl ?_;refine cA i (.zk (zV _) (.zs .nil)) ?_;simp[go_sem,h];exact .zsc _
theorem Ke{ks:List Nd}{i:Int}(h:jF ks i=true):∀ k,k∈ks->forN k i=true:=by
 induction ks with
 |nil=>grind
 |cons a l j =>
  simp only[jF,qi]at h;intro k g;rcases qp.1 g with rfl|g
  .exact h.1
  .exact j h.2 k g
theorem Kf:∀(m:Nat) (n:Nd) (g:Int),szN n<=m->forN n g=true->WfN n
 | 0,n,_,j,_=>by obtain⟨op,nm,i,ks,p⟩:=n;simp[szN]at j
 |m+1,n,g,j,h=>by
  rw[Yp]at h;split at h
  .grind
  .simp only[qi]at h
   obtain⟨r,t,o⟩:=h;refine .mk n ?_ (fun C=>?_) fun k l=>Kf m k (g-1) (zW1 (jC l)) (Ke o k l)
   .grind [fitB]
   simp_all[ownB,numB,if_pos,absurd]
theorem VX{n:Nd}(h:zS n=true):WfN n:=by
 simp only[zS,qi]at h;exact Kf (szN n) n 24 (qr _) h.2
end Q4
namespace Q5
theorem qa4(a b:List Int)(ha:a.length<=1000000):qd qb 106 [lI a,lI b] (aB (decide (a=b))):=by
 refine qSV call106 func106 rfl ?_;by_cases j:a.length=b.length
 case neg =>
  rw[decide_eq_false (by rintro rfl;exact j rfl)];simp[go_sem,j];exact .zsc _
 simp[go_sem,j];refine fZ a.length (fun k st=>st.tm 0=lI a/\st.tm 1=lI b/\st.tm 5=aI k/\∀(i:Nat) (h:i<a.length) (o:i<b.length),i<k->a[i]=b[i]) ?_ ?_
 .exact ⟨zSi,zSi,zSi,fun i h o P=>absurd P zOm⟩
 .rintro k st hk ⟨l,C,p,R⟩
  by_cases T:k=a.length
  .rw [decide_eq_true (List.ext_getElem j fun i h o=>R i h o zOm)]
   have I:k=b.length:=zOm;simp[go_sem,l,p,I,j];exact .zsc _
  .have U:k<a.length:=by omega
   have r:k<b.length:=zOm;have w1:=zWk k;have g:(k:Int)<(b.length:Int):=zOm;by_cases t:a[k]=b[k]
   .simp [go_sem,l,p,j,g]
    try refine aQ zKr ?_
    simp[go_sem,l,C,p,r,j,g,t,w1]
    try refine⟨zOm,aK ?_⟩
    try refine aK ?_
    refine⟨zS1 l,zS1 C,zSi,fun i h o P=>?_⟩;by_cases J:i=k
    .subst J;exact t
    .exact R i h o zOm
   .rw [decide_eq_false (fun e=>t (zP1 e))]
    simp[go_sem,l,p,j,g]
    try refine aQ zKr ?_
    simp[go_sem,l,C,p,r,j,g,t];exact .zsc _
end Q5
namespace Q6
end Q6
namespace Q7
open YF P1
def parB(ns:Nat)(l:List (cD×Int)):Bool:=decide (l.length<=8)&&l.all fun p=>decide (0<=p.2)&&decide (p.2<ns)
theorem qa5(ts:TS)(l:List (cD×Int)):qd qb 73 [eTS ts,lPm l] (aB (parB ts.sS.length l)):=by
 refine qSV call73 func73 rfl ?_;by_cases U:l.length<=8
 case neg =>
  have i:parB ts.sS.length l=false:=by simp[parB,U]
  have r:(8:Int)<l.length:=zOm;rw[i];simp[go_sem,r];exact .zsc _
 have r:¬(8:Int)<l.length:=zOm;simp[go_sem,r];refine fZ l.length (fun k st=>st.tm 1=lPm l/\st.tm 2 = .ip (cTS ts)/\st.tm 5=aI k/\∀ j p,j<k->l[j]?=some p->0<=p.2/\p.2<ts.sS.length) ?_ ?_
 .exact ⟨zSi,zSi,zSi,fun j p C=>absurd C zOm⟩
 .rintro k st hk ⟨o,J,t,hI⟩
  by_cases P:k=l.length
  .have i:parB ts.sS.length l=true:=by
    simp only[parB,qi,decide_eq_true_eq,qu];refine⟨U,fun p i=>?_⟩;obtain⟨j,C⟩:=List.mem_iff_getElem?.1 i;exact hI j p (by have:=(qn.1 C).1;omega) C
   rw[i];simp[go_sem,o,t,P];exact .zsc _
  .have g:k<l.length:=by omega
   have w1:=zWk k;have hg:l[k]?=some l[k]:=qq g;by_cases hq:0<=l[k].2/\l[k].2<ts.sS.length
   .have I:¬l[k].2<0:=by omega
    have R:¬(ts.sS.length:Int)<=l[k].2:=zOm;simp[go_sem,o,t,g];refine aQ zKr ?_;simp[go_sem,o,J,t,g,I,R,w1]
    try refine⟨g,aK ?_⟩
    try refine aK ?_
    refine⟨zS1 o,zS1 J,zSi,fun j p C i=>?_⟩;by_cases T:j=k
    .subst T;rw[hg]at i;cases i;exact hq
    .exact hI j p zOm i
   .have i:parB ts.sS.length l=false:=by
     rw[parB,Bool.and_eq_false_iff];refine .inr (List.all_eq_false.2 ⟨l[k],qo g,?_⟩);simp only[qi,decide_eq_true_eq];exact hq
    rw[i];by_cases I:l[k].2<0
    .simp [go_sem,o,t,g]
     refine aQ zKr ?_;simp[go_sem,o,t,g,I];exact .zsc _
    .have R:(ts.sS.length:Int)<=l[k].2:=by omega
     simp[go_sem,o,t,g];refine aQ zKr ?_;simp[go_sem,o,J,t,g,I,R];exact .zsc _
theorem qa6{ns:Nat}{l:List (cD×Int)}(h:parB ns l=true):l.length<=8/\∀ p,p∈l->0<=p.2/\p.2<ns:=by
 simp only[parB,qi,decide_eq_true_eq,qu]at h;exact⟨h.1,fun p g=>h.2 p g⟩
end Q7
namespace Q8
open YF P1 P2 Y1 Y9 Q4 Q7
def limB(ts:TS):Bool:=decide (ts.sS.length<=4)&&decide (ts.sA.length<=6)&&decide (ts.sT.length<=8)&&decide (ts.sP.length<=16)
def fldB(ns:Nat)(f:Fld):Bool:=decide (1<=f.sS.length)&&decide (f.sS.length<=3)&&f.sS.all fun x=>decide (0<=x)&&decide (x<ns)
def zn(ts:TS):Bool:=limB ts&&(ts.sA.all (fldB ts.sS.length)&&(ts.sT.all (fun p=>parB ts.sS.length p.params&&zS p.body)&&ts.sP.all fun f=>zS f.2))
theorem qa7(ts:TS):qd qb 34 [eTS ts] (aB (zn ts)):=by
 refine qSV call34 func34 rfl ?_;by_cases h1:ts.sS.length<=4
 case neg =>
  have hf:zn ts=false:=by simp[zn,limB,h1]
  have I:(4:Int)<ts.sS.length:=zOm;rw[hf];simp[go_sem,I];exact .zsc _
 have I:¬(4:Int)<ts.sS.length:=zOm;by_cases h2:ts.sA.length<=6
 case neg =>
  have hf:zn ts=false:=by simp[zn,limB,h2]
  have J:(6:Int)<ts.sA.length:=zOm;rw[hf];simp[go_sem,I,J];exact .zsc _
 have J:¬(6:Int)<ts.sA.length:=zOm;by_cases h3:ts.sT.length<=8
 case neg =>
  have hf:zn ts=false:=by simp[zn,limB,h3]
  have R:(8:Int)<ts.sT.length:=zOm;rw[hf];simp[go_sem,I,J,R];exact .zsc _
 have R:¬(8:Int)<ts.sT.length:=zOm;by_cases h4:ts.sP.length<=16
 case neg =>
  have hf:zn ts=false:=by simp[zn,limB,h4]
  have a2:(16:Int)<ts.sP.length:=zOm;rw[hf];simp[go_sem,I,J,R,a2];exact .zsc _
 have a2:¬(16:Int)<ts.sP.length:=zOm;simp[go_sem,I,J,R,a2];have ae:limB ts=true:=by grind [limB]
 generalize U:ts.sS.length=T at *
 refine fZ ts.sA.length (fun k st=>st.tm 1 = .ip (cTS ts)/\st.tm 3=aI k/\∀ j f,j<k->ts.sA[j]?=some f->fldB T f=true) ?_ ?_
 .simp [go_sem, *]
 .rintro k st hk ⟨t,e3,hI⟩
  by_cases C:k=ts.sA.length
  .have ag:ts.sA.all (fldB T)=true:=by
    grind [qu,List.mem_iff_getElem?,qn]
   simp[go_sem,t,e3,C];refine fZ ts.sT.length (fun k st=>st.tm 1 = .ip (cTS ts)/\st.tm 6=aI k/\∀ j p,j<k->ts.sT[j]?=some p->(parB T p.params&&zS p.body)=true) ?_ ?_
   .simp [go_sem, *]
   .clear t e3 hI C hk k st
    rintro k st hk ⟨t,e6,hI⟩;by_cases C:k=ts.sT.length
    .have ah:(ts.sT.all fun p=>parB T p.params&&zS p.body)=true:=by
      grind [qu,List.mem_iff_getElem?,qn]
     simp[go_sem,t,e6,C];refine fZ ts.sP.length (fun k st=>st.tm 1 = .ip (cTS ts)/\st.tm 7=aI k/\∀ j f,j<k->ts.sP[j]?=some f->zS f.2=true) ?_ ?_
     .simp [go_sem, *]
     .clear t e6 hI C hk k st
      rintro k st hk ⟨t,e7,hI⟩;by_cases C:k=ts.sP.length
      .have af:(ts.sP.all fun f=>zS f.2)=true:=by
        grind [qu,List.mem_iff_getElem?,qn]
       have a5:zn ts=true:=by
        grind [zn]
       rw[a5];simp[go_sem,t,e7,C];exact .zsc _
      .have g:k<ts.sP.length:=by omega
       have w1:=zWk k;have hg:ts.sP[k]?=some ts.sP[k]:=qq g;have P:=Kc ts.sP[k].2;simp[go_sem,t,e7,g]
       try refine aQ zKr ?_
       try simp[go_sem,t,e7,g]
       refine cA P (.zk (zV _) .nil) ?_;cases a6:zS ts.sP[k].2 with
       |false =>
        have hb:zn ts=false:=by
         grind [zS,List.all_eq_false,qo,zn]
        rw[hb];simp[go_sem];exact .zsc _
       |true =>
        simp[go_sem,e7,g,w1]
        try refine⟨g,aK ?_⟩
        try refine aK ?_
        refine⟨zS1 t,zSi,fun i f hi hf=>?_⟩
        grind
    .have g:k<ts.sT.length:=by omega
     have w1:=zWk k;have hg:ts.sT[k]?=some ts.sT[k]:=qq g;have o:(parB T ts.sT[k].params&&zS ts.sT[k].body)=false->zn ts=false:=fun hb=>by
      grind [parB,zS,List.all_eq_false,qo,zn]
     have a1:=qa5 ts ts.sT[k].params;rw[U]at a1;have P:=Kc ts.sT[k].body;have a7:WKs [eTS ts,lPm ts.sT[k].params] [eTS ts,lPm ts.sT[k].params] := .zk (qG ts) (.zk (Qw _) .nil);simp[go_sem,t,e6,g];refine aQ zKr ?_;simp[go_sem,t,e6,g];refine cA a1 a7 ?_;cases a8:parB T ts.sT[k].params with
     |false =>
      rw[o (by rw[a8];rfl)];simp[go_sem];exact .zsc _
     |true =>
      simp[go_sem,t,e6,g];refine cA P (.zk (zV _) .nil) ?_;cases a6:zS ts.sT[k].body with
      |false =>
       rw[o (by grind)];simp[go_sem];exact .zsc _
      |true =>
       simp[go_sem,e6,g,w1]
       try refine⟨g,aK ?_⟩
       try refine aK ?_
       refine⟨zS1 t,zSi,fun i f hi hf=>?_⟩
       grind
  .have g:k<ts.sA.length:=by omega
   have hg:ts.sA[k]?=some ts.sA[k]:=qq g;have o:fldB T ts.sA[k]=false->zn ts=false:=fun hb=>by
    have:ts.sA.all (fldB T)=false:=List.all_eq_false.2 ⟨_,qo g,zP1 hb⟩;simp[zn,U,this]
   by_cases c1:1<=ts.sA[k].sS.length
   case neg =>
    rw[o (by simp[fldB,c1])];have a0:(ts.sA[k].sS.length:Int)<1:=zOm;simp[go_sem,t,e3,g,a0];exact .zsc _
   have a0:¬(ts.sA[k].sS.length:Int)<1:=zOm;by_cases c3:ts.sA[k].sS.length<=3
   case neg =>
    rw[o (by simp[fldB,c3])];have a3:(3:Int)<ts.sA[k].sS.length:=zOm;simp[go_sem,t,e3,g,a0,a3];exact .zsc _
   have a3:¬(3:Int)<ts.sA[k].sS.length:=zOm;simp[go_sem,t,e3,g,a0,a3];refine fZ ts.sA[k].sS.length (fun j s=>s.tm 1 = .ip (cTS ts)/\s.tm 3=aI k/\s.tm 4=lI ts.sA[k].sS/\s.tm 5=aI j/\∀ i x,i<j->ts.sA[k].sS[i]?=some x->0<=x/\x<T) ?_ ?_
   .exact ⟨zS1 t,zS1 e3,zSi,zSi,fun i x hi=>absurd hi zOm⟩
   .rintro j s hj ⟨f1,f3,f4,f5,hJ⟩
    generalize hl:ts.sA[k].sS=l at *
    by_cases a9:j=l.length
    .have w1:=zWk k
     have a4:fldB T ts.sA[k]=true:=by
      simp only[fldB,hl,qi,decide_eq_true_eq,qu];refine⟨⟨c1,c3⟩,fun x hx=>?_⟩;obtain⟨i,hi⟩:=List.mem_iff_getElem?.1 hx;exact hJ i x (by have:=(qn.1 hi).1;omega) hi
     simp[go_sem,f3,f4,f5,a9,w1]
     try refine⟨g,aK ?_⟩
     try refine aK ?_
     refine⟨zS1 f1,zSi,fun i f hi hf=>?_⟩;by_cases aa:i=k
     .subst aa;rw[hg]at hf;cases hf;exact a4
     .exact hI i f zOm hf
    .have r:j<l.length:=by omega
     have w1:=zWk j;have ab:l[j]?=some l[j]:=qq r;by_cases hq:0<=l[j]/\l[j]<T
     .have q1:¬l[j]<0:=by omega
      have q2:¬(T:Int)<=l[j]:=zOm;simp[go_sem,f4,f5,r];refine aQ zKr ?_;simp[go_sem,f1,f4,f5,r,q1,q2,w1,U]
      try refine⟨r,aK ?_⟩
      try refine aK ?_
      refine⟨zS1 f1,zS1 f3,zS1 f4,zSi,fun i x hi hx=>?_⟩;by_cases ad:i=j
      .subst ad;rw[ab]at hx;cases hx;exact hq
      .exact hJ i x zOm hx
     .rw [o (by
       rw[fldB,hl,Bool.and_eq_false_iff];refine .inr (List.all_eq_false.2 ⟨l[j],qo r,?_⟩);simp only[qi,decide_eq_true_eq];exact hq)]
      by_cases q1:l[j]<0
      .simp [go_sem,f4,f5,r]
       refine aQ zKr ?_;simp[go_sem,f4,f5,r,q1];exact .zsc _
      .have q2:(T:Int)<=l[j]:=by omega
       simp[go_sem,f4,f5,r];refine aQ zKr ?_;simp[go_sem,f1,f4,f5,r,q1,q2,U];exact .zsc _
theorem qa8{ts:TS}(h:zn ts=true)(i:∀ x,x∈ts.sS->x.1.size<=4611686018427387904):okTS ts/\(∀ p,p∈ts.sT->WfN p.body)/\∀ f,f∈ts.sP->WfN f.2:=by
 simp only[zn,limB,fldB,qi,decide_eq_true_eq,qu]at h;obtain⟨⟨⟨⟨j,l⟩,o⟩,r⟩,hf,t,C⟩:=h;refine⟨⟨j,l,o,r,i,fun f g=>?_,fun p g=>?_⟩,fun p g=>VX (t p g).2,fun f g=>VX (C f g)⟩
 .grind
 grind [qa6]
end Q8
namespace FD
end FD
namespace GF
open E1 EO EW F4 GD
abbrev rP(p:Int×Int):List AV:=[aI p.1,aI p.2]
abbrev lP(ps:List (Int×Int)):AV := .lst false (ps.map rP)
theorem VY(xs:List (Int×Int)):za 2 (xs.map rP):=fun r g=>by
 obtain⟨n,_,rfl⟩:=qs.1 g;exact⟨rfl,rfl⟩
abbrev eBd(b:Bd):AV := .agg (cBd b)
theorem Kg(b:Bd):∀ c,c∈cBd b->HF c:=by
 intro c g;simp at g;rcases g with rfl|rfl|rfl|rfl
 .exact HF.sc _
 .exact qM _
 .exact HF.sc _
 .exact qM _
theorem VZ(b:Bd):HF (eBd b):=HF.agg (Kg b)
theorem qa9(x:Bd):qd qb 202 [eBd x] (.fn (.func 225) [] [.ip (cBd x)]):=by
 refine qSU call202 func202 rfl ?_;refine .hf _ (HF.fn (fun c g=>by simp at g) (fun c g=>?_))
 grind [HF.ip,Kg]
def ww(x:Bd):List Int:=x.up.ts.filter fun t=>!decide (t∈x.lo.ts)
theorem qbA{C:Type}(p:C->Bool)(l:List C)(k:Nat)(h:k<l.length)(g:p l[k]=true):(l.filter p)[((l.take k).filter p).length]?=some l[k]:=by
 have e:l=l.take k++l[k] :: l.drop (k+1):=by
  rw[<-zH h,uN]
 have i:l.filter p=(l.take k).filter p++l[k] :: (l.drop (k+1)).filter p:=by
  conv=>lhs;rw[e]
  rw[List.filter_append,List.filter_cons,if_pos g]
 rw[i,zo (qr _)];simp
theorem qbB{C:Type}(p:C->Bool)(l:List C)(k:Nat)(h:k<l.length):((l.take (k+1)).filter p).length=((l.take k).filter p).length+(if p l[k]=true then 1 else 0):=by
 rw[List.take_add_one,qq h,List.filter_append];cases g:p l[k]<;>simp[g]
theorem qbC(x:Bd)(hl:x.up.ts.length<=1000000000)(P:x.lo.ts.length<=1000000000)(hs:x.lo.ts.Pairwise (·<=·)):yI qb 225 [.ip (cBd x)] ((ww x).map fun t=>[aI t]):=by
 refine yI.of call225 fun i I Ix hS hX hY mu h0=>?_
 refine qSW call225 func225 rfl {} ?_;simp[go_sem];refine cC (fun m st=>∃ k,m=x.up.ts.length-k/\k<=x.up.ts.length/\st.tm 0 = .yl i/\st.tm 1 = .ip (cBd x)/\st.tm 9=lI x.up.ts/\st.tm 10=aI x.up.ts.length/\st.tm 11=aI (k:Nat)/\I ((x.up.ts.take k).filter fun t=>!decide (t∈x.lo.ts)).length st.mu) x.up.ts.length ?_ ?_
 .exact ⟨0,zOm,zOm,zSi,zSi,zSi,zSi,zSi,zVs h0⟩
 rintro m st ⟨k,rfl,hk,R,T,U,l,o,J⟩;by_cases r:k<x.up.ts.length
 .simp [go_sem,T,U,l,o,r]
  refine cA (binU x.lo.ts x.up.ts[k] P hs) (.zk (qM _) (.zs .nil)) ?_;have g:=qbB (fun t=>!decide (t∈x.lo.ts)) x.up.ts k r;by_cases j:x.up.ts[k]∈x.lo.ts
  .simp [go_sem,o,j]
   rw[if_neg (zUs j),Nat.add_zero]at g;refine Keep.loop (x.up.ts.length-(k+1)) zOm ⟨k+1,rfl,zOm,zS1 R,zS1 T,zS1 U,zS1 l,?_,?_⟩
   .simp [go_sem];exact zWr
   .rw [g];simpa[go_sem] using J
  .simp [go_sem,R,j]
   rw[if_pos (zUs j)]at g;have C:((ww x).map fun t=>[aI t])[((x.up.ts.take k).filter fun t=>!decide (t∈x.lo.ts)).length]?=some [aI x.up.ts[k]]:=by
    rw[qZ,ww,qbA _ _ k r (zUs j)];rfl
   refine qc.yield (hY _ _ _ C J) ?_;rintro b p (⟨rfl,a0⟩|⟨rfl,a1⟩)
   .simp [go_sem,o]
    refine Keep.loop (x.up.ts.length-(k+1)) zOm ⟨k+1,rfl,zOm,zS1 R,zS1 T,zS1 U,zS1 l,?_,?_⟩
    .simp [go_sem];exact zWr
    .rw [g];simpa[go_sem] using a0
   .simp [go_sem]
    exact .inr a1
 .have a2:k=x.up.ts.length:=by omega
  subst a2;rw[zt]at J;simp[go_sem,l,o];exact .inl J
def yB(k:Nat)(x:Bd):List (Int×Int):=(ww x).map fun t=>((k:Int),t)
def zD:List Bd->Nat->List (Int×Int)
 | [],_=>[]
 |x :: l,k=>yB k x++zD l (k+1)
theorem Kh:∀(l m:List Bd) (k:Nat),zD (l++m) k=zD l k++zD m (k+l.length)
 | [],m,k=>by simp[zD]
 |x :: l,m,k=>by
  rw[yS,zD,zD,Kh l m (k+1),List.append_assoc];have:k+1+l.length=k+(x :: l).length:=zSo;rw[this]
theorem qbD(l:List Bd)(k:Nat)(h:k<l.length):zD (l.take (k+1)) 0=zD (l.take k) 0++yB k l[k]:=by
 rw[List.take_add_one,qq h];show zD (l.take k++[l[k]]) 0=_;rw[Kh];have:(l.take k).length=k:=zSo;rw[this,yw];simp[zD]
structure Ki (x:Bd):Prop where
 up:x.up.ts.length<=1000000
 lo:x.lo.ts.length<=1000000
 sorted:x.lo.ts.Pairwise (·<=·)
theorem Kj:∀(l:List Bd) (k:Nat),(∀ x,x∈l->Ki x)->(zD l k).length<=l.length*1000000
 | [],k,_=>by simp[zD]
 |x :: l,k,h=>by
  have i:=Kj l (k+1) (fun y g=>h y (zP1 g));have j:(yB k x).length<=1000000:=by
   rw[yB,yP];exact Nat.le_trans (List.length_filter_le _ _) (h x zSp).up
  simp only[zD,zc,zZ];omega
theorem aG{mu:Mu}{av:AV}{xs:List (Int×Int)}(h:Own mu 2 av (xs.map rP)):Rd mu av (lP xs):=
 h.rd (VY xs).ok fun r i c g=>by
  obtain⟨n,_,rfl⟩:=qs.1 i;simp at g;rcases g with rfl|rfl<;>exact HF.sc _
theorem freeU(g:List Bd)(hl:g.length<=1000)(hb:∀ x,x∈g->Ki x):qd qb 185 [lBd g] (lP (zD g 0)):=by
 refine qSU call185 func185 rfl ?_;refine cC (fun m st=>∃ k P C,m=g.length-k/\k<=g.length/\st.tm 3 = .ptr 0 0/\st.tm 7=lBd g/\st.tm 8=aI g.length/\st.tm 9=aI (k:Nat)/\st.mu = .arr [P] :: C/\Own st.mu 2 P ((zD (g.take k) 0).map rP)/\qw P≠some 0) g.length ?_ ?_
 .refine ⟨0,.lst true [],[],zOm,zOm,zSi,zSi,zSi,zSi,zSi,?_,by simp[qw]⟩
  simp[go_sem,zD];exact .inl rfl
 rintro m st ⟨k,P,C,rfl,hk,e3,e7,e8,e9,hm,ho,a9⟩;by_cases U:k<g.length
 .have hx:=hb _ (qo U)
  have ae:(zD (g.take (k+1)) 0).length<=1000000000:=by
   grind [Kj,jg,Nat.mul_le_mul_right]
  have a0:=qbD g k U;rw[hm]at ho;have aa:qw P≠some (C.length+1):=fun h=>by have:=Own.lt ho h;simp at this
  simp[go_sem,e7,e8,e9,hm,U];refine fG (qa9 g[k]) (.zk (VZ _) .nil) ?_;refine cM (qbC g[k] (zW1 hx.up) (zW1 hx.lo) hx.sorted) (fun j M=>∃ P o,M = .arr [P] :: o/\M[C.length+1]?=some (.arr [aI k])/\Own M 2 P ((zD (g.take k) 0++(yB k g[k]).take j).map rP)/\qw P≠some 0/\qw P≠some (C.length+1)) (fun _ _=>False) ?_ ?_ ?_ ?_ ?_ ?_
  .refine ⟨P,_,by simp only[jz,yS];rfl,zSi,?_,a9,aa⟩
   have:=Own.push ho [Cell.arr [aI k],Cell.arr (cBd g[k]),.dead];simp_all[go_sem]
  .rintro j M ⟨P,o,rfl,h1,h2,h3,h4⟩
   exact⟨P,o++[.dead],rfl,by grind,Own.push h2 _,h3,h4⟩
  .grind
  .rintro j x M hj ⟨P,o,rfl,h1,h2,h3,h4⟩
   rw[qZ,zW]at hj;obtain⟨t,ht,rfl⟩:=hj;have af:j<(ww g[k]).length:=(qn.1 ht).1;have ag:(yB k g[k]).take (j+1)=(yB k g[k]).take j++[((k:Int),t)]:=by
    rw[List.take_add_one];have:(yB k g[k])[j]?=some ((k:Int),t):=by rw[yB,qZ,ht];rfl
    rw[this];rfl
   have ah:(zD (g.take k) 0++(yB k g[k]).take j).length<=1000000000:=by
    grind
   refine⟨rfl,?_⟩;have ab:=(qn.1 h1).1;have a3:=h1;simp at a3;simp[go_sem,e3,a3];refine qI.ownB (e:=148) (sz:=2) (bt:=16) (zv := .agg [aI 0,aI 0]) (xs:=(zD (g.take k) 0++(yB k g[k]).take j).map rP) (ys:=[rP ((k:Int),t)]) zSi zSi zSi rfl rfl zOm zOm h2 (by simp[qE]) (VY _) (VY [((k:Int),t)]) (by grind) ?_;intro R p a1 a4 ai aj;have ad:=a4 0 zSp h3;have a5:=a4 (C.length+1) ab h4;rw[h1]at a5;obtain⟨I,rfl⟩:∃ I,p = .arr [P] :: I:=by
    cases p with
    |nil=>simp at ad
    |cons c r=>grind
   have T:qw R≠some 0:=fun h=>by grind
   have a6:qw R≠some (C.length+1):=fun h=>by grind
   have a7:=Own.set a1 (i:=0) (.arr [R]) T;have a8:(zD (g.take k) 0++(yB k g[k]).take j).map rP++[rP ((k:Int),t)]=(zD (g.take k) 0++(yB k g[k]).take (j+1)).map rP:=by
    grind
   rw[a8]at a7;simp[go_sem,e3,Own.one a1,Own.cells a1];exact cN ⟨R,I,rfl,zUs a5,zUs a7,T,a6⟩
  .rintro M ⟨P,o,rfl,h1,h2,h3,h4⟩
   have a2:(yB k g[k]).take ((ww g[k]).map fun t=>[aI t]).length=yB k g[k]:=by
    simp_all[yP,zi,yB,qr]
   rw[a2,<-a0]at h2;simp[go_sem,e9];refine Keep.loop (g.length-(k+1)) zOm ⟨k+1,P,o,rfl,zOm,zS1 e3,zS1 e7,zS1 e8,?_,zSi,zVs h2,h3⟩;simp[go_sem];grind [yi]
  grind
 .have ak:k=g.length:=by omega
  simp_all[go_sem,zt,aG]
end GF
namespace GH
open P1 YF E3 EO EW F1 F4 GF GG
abbrev lMd(l:List Md):AV := .lst false (l.map cMd)
theorem V1(xs:List Md):za 4 (xs.map cMd):=fun r g=>by
 obtain⟨n,_,rfl⟩:=qs.1 g;exact⟨rfl,rfl⟩
theorem V2:∀(r c x:List (List AV)),x∈subL c r->∀ y,y∈x->y∈c\/y∈r
 | [],c,x,h,y,g=>by grind [subL,qV]
 |z :: r,c,x,h,y,g=>by
  rw[subL,qR]at h;rcases h with h|h
  .rcases V2 r c x h y g with h|h
   .exact .inl h
   .exact .inr (zP1 h)
  .rcases V2 r _ x h y g with h|h
   .rcases qR.1 h with h|h
    .exact .inl h
    .rw [qV]at h;subst h;exact .inr zSp
   .exact .inr (zP1 h)
def yW(g:Nat->List (List AV)->Md)(cs:List (List AV))(k:Nat):List Md:=(qm k).flatMap fun s=>(subL [] cs).map (g s)
theorem Kk(g:Nat->List (List AV)->Md)(cs:List (List AV))(k:Nat):yW g cs (k+1)=yW g cs k++(subL [] cs).map (g k):=by
 unfold yW;rw[List.range_succ,List.flatMap_append];simp
theorem Kl(g:Nat->List (List AV)->Md)(cs:List (List AV)):∀ k,(yW g cs k).length=k*(subL [] cs).length
 | 0=>by simp[yW]
 |k+1=>by rw[Kk,zc,Kl g cs k,yP,Nat.succ_mul]
theorem aR{mu:Mu}{av:AV}{xs:List Md}(h:Own mu 4 av (xs.map cMd)):Rd mu av (lMd xs):=
 h.rd (V1 xs).ok fun r i c g=>by
  obtain⟨n,_,rfl⟩:=qs.1 i;simp at g;rcases g with rfl|rfl|rfl|rfl<;>first|exact HF.sc _|exact qM _|exact Ya _
theorem qbE(ts:TS)(sc:Sc)(bs:List Bd)(cs:List (List AV))(g:Nat->List (List AV)->Md)(S:Nat)(hS:sc.sN=S)(aw:S<=4)(hr:v7 cs)(hl:cs.length<=14)(ao:S*(subL [] cs).length<=1000000)
  (ax:S*2 ^ cs.length<=16384)
  (U:qd qb 128 [eTS ts,eSc sc] (aB true)) (R:qd qb 176 [eTS ts,eSc sc,lBd bs] (aB true)) (h3:qd qb 177 [eTS ts,eSc sc,lBd bs] (.lst false cs))
  (hi:∀ k,k<S->∀ c,c∈subL [] cs->qd qb 179 [eTS ts,eSc sc,lBd bs,aI (k:Nat),.lst false c] (eMd (g k c))):qd qb 158 [eTS ts,eSc sc,lBd bs] (.tup [lMd (yW g cs S),aI 0]):=by
 refine qSU call158 func158 rfl ?_;refine fG U (.zk (qG _) (.zk (qX _) .nil)) ?_;refine fG R (.zk (qG _) (.zk (qX _) (.zk (zC _) .nil))) ?_;refine cA h3 (.zk (qG _) (.zk (qX _) (.zk (zC _) .nil))) ?_;have af:¬(14:Int)<cs.length:=zOm;have n0:¬(cs.length:Int)<0:=zOm;have nm:min cs.length 64=cs.length:=zOm;have aq:(S:Int)*2 ^ cs.length<=16384:=by grind
 have ar:(0:Int)<=(S:Int)*2 ^ cs.length:=by exact_mod_cast Nat.zero_le _
 have ag:qx.wrap ((S:Int)*2 ^ cs.length)=(S:Int)*2 ^ cs.length:=zWr;have ah:¬(16384:Int)<(S:Int)*2 ^ cs.length:=zOm;simp[go_sem,af,hS,n0,nm,ag,ah];refine cC (fun m st=>∃ k P t,m=S-k/\k<=S/\st.tm 3 = .ip (cTS ts)/\st.tm 4 = .ip [lI sc.sC,aI sc.sN]/\st.tm 5 = .ip [lBd bs]/\st.tm 8 = .lst false cs/\st.tm 9 = .ptr 0 0/\st.tm 39=aI S/\st.tm 40=aI (k:Nat)/\st.mu = .arr [P] :: t/\Own st.mu 4 P ((yW g cs k).map cMd)/\qw P≠some 0) S ?_ ?_
 .refine ⟨0,.lst true [],[],zOm,zOm,zSi,zS1 hS,zSi,zSi,zSi,zSi,zSi,zSi,?_,by simp[qw]⟩
  simp[go_sem,yW];exact .inl rfl
 rintro m st ⟨k,P,t,rfl,hk,e3,e4,e5,e8,e9,a0,a1,hm,ho,ai⟩;by_cases a6:k<S
 .have ay:=Kl g cs (k+1)
  have au:=Nat.mul_le_mul_right (subL [] cs).length (show k+1<=S by omega);have a2:=Kk g cs k;rw[hm]at ho;have aj:qw P≠some (t.length+1):=fun h=>by have:=Own.lt ho h;simp at this
  simp[go_sem,e8,a0,a1,hm,a6];refine fG (mU cs hr) (.zk (HF.lst fun r a3 x hx=>(hr r a3).2.2 x hx) .nil) ?_;refine cM (mT cs hr zOm) (fun j M=>∃ P o,M = .arr [P] :: o/\M[t.length+1]?=some (.arr [aI k])/\Own M 4 P ((yW g cs k++((subL [] cs).map (g k)).take j).map cMd)/\qw P≠some 0/\qw P≠some (t.length+1)) (fun _ _=>False) ?_ ?_ ?_ ?_ ?_ ?_
  .refine ⟨P,_,by simp only[jz,yS];rfl,zSi,?_,ai,aj⟩
   have:=Own.push ho [Cell.arr [aI k],.dead];simp_all[go_sem]
  .rintro j M ⟨P,o,rfl,U,R,h3,h4⟩
   exact⟨P,o++[.dead],rfl,by grind,Own.push R _,h3,h4⟩
  .grind
  .rintro j x M hj ⟨P,o,rfl,U,R,h3,h4⟩
   rw[qZ,zW]at hj;obtain⟨c,hc,rfl⟩:=hj;have az:j<(subL [] cs).length:=(qn.1 hc).1;have a7:c∈subL [] cs:=qY hc;have b0:((subL [] cs).map (g k)).take (j+1)=((subL [] cs).map (g k)).take j++[g k c]:=by
    rw[List.take_add_one];have:((subL [] cs).map (g k))[j]?=some (g k c):=by rw[qZ,hc];rfl
    rw[this];rfl
   refine⟨rfl,?_⟩;have ak:=(qn.1 U).1;have a8:=U;simp at a8;simp[go_sem];refine aQ zKr ?_;simp[go_sem,e3,e4,e5,e9,a8];refine cA (hi k a6 c a7) (.zk (qG _) (.zk (qX _) (.zk (zC _) (.zs (.zk (HF.lst ?_) .nil))))) ?_
   .exact fun r a3 x hx=>(hr r (by rcases V2 cs [] c a7 r a3 with h|h;exact absurd h zSp;exact h)).2.2 x hx
   simp[go_sem];refine qI.ownB (e:=43) (sz:=4) (bt:=64) (zv := .agg [.lst true [],aI 0,.lst true [],aI 0]) (xs:=yW g cs k++((subL [] cs).map (g k)).take j |>.map cMd) (ys:=[cMd (g k c)]) zSi zSi zSi rfl rfl zOm zOm R (by simp[qE]) (V1 _) (V1 [g k c]) ?_ ?_
   .grind
   intro I p a4 a9 b1 b2;have al:=a9 0 zSp h3;have aa:=a9 (t.length+1) ak h4;rw[U]at aa;obtain⟨C,rfl⟩:∃ C,p = .arr [P] :: C:=by
    cases p with
    |nil=>simp at al
    |cons c r=>grind
   have T:qw I≠some 0:=fun h=>by grind
   have ab:qw I≠some (t.length+1):=fun h=>by grind
   have ad:=Own.set a4 (i:=0) (.arr [I]) T;have ae:(yW g cs k++((subL [] cs).map (g k)).take j).map cMd++[cMd (g k c)]=(yW g cs k++((subL [] cs).map (g k)).take (j+1)).map cMd:=by
    grind
   rw[ae]at ad;simp[go_sem,e9,Own.one a4,Own.cells a4];exact cN ⟨I,C,rfl,zUs aa,zUs ad,T,ab⟩
  .rintro M ⟨P,o,rfl,U,R,h3,h4⟩
   have a5:((subL [] cs).map (g k)).take ((subL [] cs).map fun c=>[AV.lst false c]).length=(subL [] cs).map (g k):=by
    rw[yP,zi zSp]
   rw[a5,<-a2]at R;simp[go_sem,a1];refine Keep.loop (S-(k+1)) zOm ⟨k+1,P,o,rfl,zOm,zS1 e3,zS1 e4,zS1 e5,zS1 e8,zS1 e9,zS1 a0,?_,zSi,zVs R,h3⟩;simp[go_sem];grind [yi]
  grind
 .have an:k=S:=by omega
  subst an;rw[hm]at ho;simp[go_sem,e9,a0,a1,hm];refine .tup _ _ rfl fun j x y hx hy=>?_
  match j with
  | 0=>grind [aR]
  | 1=>simp at hx hy;subst hx;subst hy;exact .zsc _
  |j+2=>simp at hx
end GH
namespace JE
open F1 JB JC
section
variable {l:List (us×yz)}
def Yq:List (us×yz)->us->Option yz
 | [],_=>none
 |p :: l,f=>if f=p.1 then some p.2 else Yq l f
def Km(f:us)(c:List AV):Bool:=match c with
 | [.ip [.lst _ []]]=>f == 297
 |_=>false
def envL(l:List (us×yz)):EnvJ:=⟨Yq l,Km,fun _=>[],fun f=>calL.any fun x=>x.1 == f⟩
theorem Kn{P:qf}:∀{l:List (us×yz)},(∀ p,p∈l->yK P p.1 p.2)->∀ f h,Yq l f=some h->yK P f h
 | [],_,_,_,h=>by cases h
 |p :: l,g,f,h,e=>by
  unfold Yq at e;split at e
  .rename_i i;cases e;subst i;exact g p (q8 ..)
  .exact Kn (fun q j=>g q (qJ _ j)) f h e
theorem V3(g:∀ p,p∈l->yK qb p.1 p.2):uw qb (envL l):=by
 refine⟨Kn g,fun f hf=>?_,fun f c h=>?_⟩
 .simp only[envL,List.any_eq_true,beq_iff_eq]at hf
  obtain⟨x,_,rfl⟩:=hf;exact x.2
 .simp only[envL,Km]at h
  split at h
  .rw [beq_iff_eq]at h;subst h;exact backX _
  .cases h
theorem qd.wk{P:qf}{f:us}{args:List AV}{v w:AV}(h:qd P f args v)(k:WK v w):qd P f args w:=by
 exact⟨h.1,fun i w o j l=>(h.2 i w o j l).mono fun e J ⟨g,u,p,r,t,C,I⟩=>⟨g,u,p,r,t,C,k _ _ _ I⟩⟩
noncomputable def wA(E:EnvJ)(n:Nat)(f:us)(args:List AV)(w:AV):Bool:=match Qq qb E n f args with
 |some v=>hfB 64 v&&eqV 64 (nV 64 v) w
 |none=>false
theorem uI{E:EnvJ}(g:uw qb E){n:Nat}{f:us}{args:List AV}{w:AV}(h:wA E n f args w=true):qd qb f args w:=by
 unfold wA at h;split at h
 .rename_i v i
  rw[qi]at h;rw[<-u7 h.2];exact qd.wk (Vl g i) (Vk 64 64 v h.1)
 .cases h
theorem qbF{i j l o p t C I J P R T e4 x:AV}{r:Bool}(ho:[i,j,l,o,p,t,C,I,J,P,R,T,e4].all AV.one=true)(ha:HF (.agg [i,j,l,o]))(hb:HF (.agg [p,t,C,I]))(he:HF (.agg [J,P,R,T,e4]))(hx:HF x)(h1:qd qb 200 [.agg [i,j,l,o],.agg [p,t,C,I]] x)(h2:qd qb 201 [x,.agg [aI 0,.lst false []],.agg [J,P,R,T,e4]] (aB r)) :
  qd qb 181 [.agg [i,j,l,o],.agg [p,t,C,I],aI 0,.lst false [],.agg [J,P,R,T,e4]] (.tup [aB r,aI 0]):=by
 simp only[List.all_cons,List.all_nil,Bool.and_true,qi]at ho;obtain⟨o0,o1,o2,o3,o4,o5,o6,o7,o8,o9,oa,ob,oc⟩:=ho;refine Vq.toP ?_;refine Z3.of_sound ?_;refine fJ call181 func181 rfl (Nat.le_of_ble_eq_true zKr) zKr (pl:={}) ?_;simp[go_sem,o0,o1,o2,o3,o4,o5,o6,o7,o8,o9,oa,ob,oc];refine cP (g:=199) (first:=[]) (caps:=[]) zSi call199 ?_;simp[go_sem];refine ql.tail 7 zKr ?_;simp[go_sem];refine fG h1 (.zk ha (.zk hb .nil)) ?_;refine cA h2 (.zk hx (.zk (HF.agg fun c hc=>by
  simp at hc;rcases hc with rfl|rfl
  .exact HF.sc _
  .exact HF.lst fun r hr=>by simp at hr) (.zk he .nil))) ?_
 simp[go_sem];refine yL.mono (mK [.arr [aI 0]] 0 0 rfl) ?_;rintro _ rfl;simp[go_sem];exact .hf _ (HF.tup (by simp only[qp,zb,or_false,forall_eq_or_imp,forall_eq];exact⟨HF.sc _,HF.sc _⟩))
noncomputable def V4(l:List (us×yz)):List AV->Option AV:=fun args=>match args with
 | [.agg [g,i,j,o],.agg [p,t,C,I],.sc (.int .i64 0),.lst false [],.agg [J,P,R,T,U]]=>match Qq qb (envL l) 2000 200 [.agg [g,i,j,o],.agg [p,t,C,I]] with
  |some x=>match Qq qb (envL l) 2000 201 [x,.agg [aI 0,.lst false []],.agg [J,P,R,T,U]] with
   |some (.sc (.bool r))=>if [g,i,j,o,p,t,C,I,J,P,R,T,U].all AV.one&&(hfB 64 x&&allJ (hfB 64) [.agg [g,i,j,o],.agg [p,t,C,I],.agg [J,P,R,T,U]]) then some (.tup [aB r,aI 0]) else none
   |_=>none
  |none=>none
 |_=>none
theorem qbG(i:uw qb (envL l)):yK qb 181 (y9 (V4 l)):=by
 refine Qn fun args v h=>?_
 unfold V4 at h;split at h
 .rename_i j o p t C I J P R T U e3 e4
  split at h
  .rename_i x h1
   split at h
   .rename_i r h2
    split at h
    .rename_i g
     cases h;rw[qi,qi]at g;exact qbF g.1 (jm (jl g.2.2 (.agg [j,o,p,t]) zSp)) (jm (jl g.2.2 (.agg [C,I,J,P]) zSp)) (jm (jl g.2.2 (.agg [R,T,U,e3,e4]) zSp)) (jm g.2.1) (Vl i h1) (Vl i h2)
    .cases h
   .cases h
  .cases h
 .cases h
end
end JE
namespace JF
open P1
def bA(l:List UInt8):cD:=⟨⟨l⟩⟩
def tsH:TS:=⟨[(bA [65],false)],[⟨bA [102],[0],false⟩],[],[]⟩
def rkH(r:List AV):Int:=match r with | [_,_,.sc (.int _ n)]=>n|_=>0
end JF
namespace G5
open E9 EO
theorem V5(sc:Sc)(g:GSc sc)(n:Nat)(J:n<=1000000):qd qb 153 [eSc sc,aI n] (aI (sumI (sc.sC.take n))):=by
 have P:=g.1;refine qSU call153 func153 rfl ?_;refine qk.up (min n sc.sC.length) (fun k st=>st.tm 1=aI n/\st.tm 2 = .ip [lI sc.sC,aI sc.sN]/\st.tm 5=aI (sumI (sc.sC.take k))/\st.tm 6=aI k) ?_ ?_
 .simp [go_sem,sumI]
 rintro k st R ⟨l,C,o,p⟩;by_cases j:k<n
 .by_cases i:k<sc.sC.length
  .have I:=vW sc.sC k i
   have r:=g.sum (k+1);rw[I]at r;simp[go_sem,l,C,o,p,j,i]
   grind [yi]
  .have e:sc.sC.take n=sc.sC.take k:=by rw[zi zOm,zi zOm]
   rw[e];simp[go_sem,l,C,o,p,j,i];exact .zsc _
 .have t:k=n:=by omega
  subst t;simp[go_sem,l,o,p];exact .zsc _
theorem V6(sc:Sc)(g:GSc sc):qd qb 127 [eSc sc] (aI (sumI sc.sC)):=by
 have i:=g.1;have h:=V5 sc g sc.sC.length zOm;rw[zt]at h;refine qSU call127 func127 rfl ?_;refine fG h (.zk (qX _) (.zs .nil)) ?_;exact .zsc _
theorem Yr(n:Int)(g:0<=n)(i:n<=20):∀ k:Nat,k<=3->0<=n ^ k/\n ^ k<=8000
 | 0,_=>zSp
 | 1,_=>by rw[show n ^ 1=n by rw[Int.pow_succ,Int.pow_zero,Int.one_mul]];omega
 | 2,_=>by
  have:n*n<=20*20:=ub i i g zOm;have j:=Int.mul_nonneg g g;rw[show n ^ 2=n*n by grind];omega
 | 3,_=>by
  have j:n*n<=20*20:=ub i i g zOm;have l:=Int.mul_nonneg g g;have o:n*n*n<=400*20:=ub j i g zOm;simp_all[Int.mul_nonneg,Int.pow_succ,Int.pow_zero,Int.one_mul]
 |k+4,h=>zOm
theorem Ko(sc:Sc)(g:GSc sc)(n:Nat)(J:n<=3):qd qb 117 [eSc sc,aI n] (aI (sumI sc.sC ^ n)):=by
 have j:=g.sum sc.sC.length;rw[zt]at j;refine qSU call117 func117 rfl ?_;refine qk.up n (fun k st=>st.tm 1=aI n/\st.tm 2 = .ip [lI sc.sC,aI sc.sN]/\st.tm 5=aI (sumI sc.sC ^ k)/\st.tm 6=aI k) ?_ ?_
 .simp [go_sem]
 rintro k st P ⟨l,r,t,o⟩;by_cases i:k<n
 .have C:=Yr (sumI sc.sC) j.1 j.2 (k+1) zOm
  have e:sumI sc.sC ^ (k+1)=sumI sc.sC ^ k*sumI sc.sC:=Int.pow_succ ..;rw[e]at C;have I:(k:Int)<3:=zOm;simp[go_sem,l,r,t,o,i,I];refine cA (V6 sc g) (.zk (qX _) .nil) ?_;simp[go_sem,l,r,o,i]
  grind [yi]
 .have p:k=n:=by omega
  subst p;simp[go_sem,l,t,o];exact .zsc _
theorem Kq(l:List Int)(x:Int)(g:∀ a,a∈l->0<=a):∀(k:Nat) (i:Int),k<=l.length->sumI (l.take k)<=x->vA l x i=vA (l.drop k) (x-sumI (l.take k)) (i+k):=by
 intro k;induction k with
 |zero=>grind [sumI]
 |succ k j =>
  intro i p r;have o:=vW l k zOm;have t:=g _ (qo (show k<l.length by omega));rw[j i zOm zOm,VQ l k _ _ zOm,zIn,o]
  grind
theorem qbH(sc:Sc)(g:GSc sc)(x:Nat)(T:x<=1000):qd qb 150 [eSc sc,aI x] (aI (yM sc x)):=by
 have U:=g.1;have l:∀ a,a∈sc.sC->0<=a:=fun a R=>(g.2 a R).1
 refine qSU call150 func150 rfl ?_;refine qk.up sc.sC.length (fun k st=>st.tm 1=aI x/\st.tm 2 = .ip [lI sc.sC,aI sc.sN]/\st.tm 5=aI k/\sumI (sc.sC.take k)<=x) ?_ ?_
 .simp [go_sem,sumI]
 rintro k st I ⟨r,p,o,t⟩;by_cases j:k<sc.sC.length
 .have hs:=vW sc.sC k j
  have i:=Kq sc.sC x l k 0 I t;rw[VQ sc.sC k _ _ j]at i;have J:qx.wrap ((k:Int)+1)=((k+1:Nat):Int):=by grind [yi]
  simp[go_sem,r,p,o,j];refine cA (V5 sc g k zOm) (.zk (qX _) (.zs .nil)) ?_;simp[go_sem,r,p,o,t,J];refine cA (V5 sc g (k+1) zOm) (.zk (qX _) (.zs .nil)) ?_;by_cases P:(x:Int)<sumI (sc.sC.take (k+1))
  .have e:yM sc x=k:=by
    unfold yM;rw[i,if_pos zOm];omega
   rw[e];simp[go_sem,o,P];exact .zsc _
  .simp [go_sem,r,p,o,j,P,J]
   omega
 .have C:k=sc.sC.length:=by omega
  subst C;have e:yM sc x = -1:=by
   unfold yM;rw[Kq sc.sC x l sc.sC.length 0 I t,yQ];rfl
  rw[e];simp[go_sem,p,o];exact .zsc _
def digs(n:Int):Nat->Int->List Int
 | 0,_=>[]
 |k+1,r=>digs n k (r / n)++[r % n]
theorem uJ(n:Int):∀(k:Nat) (r:Int),(digs n k r).length=k
 | 0,_=>rfl
 |k+1,r=>by rw[digs,zc,uJ n k];rfl
theorem Kr(n:Int):∀(j:Nat) (x:Int),divN n (x / n) j=divN n x (j+1)
 | 0,x=>rfl
 |j+1,x=>by rw[divN,Kr n j x];rfl
theorem Ks(n:Int):∀(j:Nat) (r:Int),digs n (j+1) r=(divN n r j % n) :: digs n j r
 | 0,r=>by simp[digs,divN]
 |j+1,r=>by
  rw[digs,Ks n j (r / n),Kr,yS];rfl
theorem V7(n r:Int)(i:0<n)(g:0<=r):∀ j,0<=divN n r j/\divN n r j<=r
 | 0=>⟨g,by simp[divN]⟩
 |j+1=>by
  have:=V7 n r i g j;rw[divN];have l:=Int.ediv_le_self n this.1;exact⟨Int.ediv_nonneg this.1 zOm,zOm⟩
theorem qbI{mu:Mu}{b:Nat}{cells:List AV}{ds:List Int}(o:mu[b]?=some (.arr cells))(h:∀ i (I:i<ds.length),cells[i]?=some (aI ds[i])):Rd mu (.sl b 1 0 ds.length) (lI ds):=by
 refine .sl b 1 0 ds.length cells (ds.map rI) o ?_ zSp (fun r p=>by obtain⟨x,_,rfl⟩:=qs.1 p;rfl) fun k x y g l=>?_
 .grind
 .rw [yw]at g
  rw[GD.uD,qZ,zW]at l;obtain⟨z,t,rfl⟩:=l;have C:=(qn.1 t);obtain⟨j,rfl⟩:=C;rw[h k j]at g;cases g;exact .zsc _
theorem qbJ(sc:Sc)(g:GSc sc)(hp:0<sumI sc.sC)(k:Nat)(hk:k<=3)(r:Nat)(hr:(r:Int)<sumI sc.sC ^ k):qd qb 118 [eSc sc,aI k,aI r] (lI (digs (sumI sc.sC) k r)):=by
 have hs:=g.sum sc.sC.length;rw[zt]at hs;have a7:=Yr (sumI sc.sC) hs.1 hs.2 k hk;refine qSV call118 func118 rfl ?_;have a0:¬(3:Int)<k:=zOm;have a1:¬(k:Int)<0:=zOm;have a2:¬(r:Int)<0:=zOm;simp[go_sem,a0,a1,a2];refine cA (Ko sc g k hk) (.zk (qX _) (.zs .nil)) ?_;have a3:¬sumI sc.sC ^ k<=(r:Int):=zOm;simp[go_sem,a3];refine cA (V6 sc g) (.zk (qX _) .nil) ?_;generalize hN:sumI sc.sC=N at *
 have w0:qx.wrap ((k:Int)-1)=(k:Int)-1:=zWr;simp[go_sem,w0];refine cC (fun m st=>∃ j:Nat,m=k-j/\j<=k/\st.tm 1=aI k/\st.tm 7 = .sl 0 1 0 3/\st.tm 8=aI N/\st.tm 9=aI (divN N r j)/\st.tm 10=aI ((k:Int)-1-j)/\∃ c0 c1 c2,st.mu=[.arr [aI c0,aI c1,aI c2]]/\∀ i (P:i<j),[c0,c1,c2][k-j+i]?=some ((digs N j r)[i]'(by rw[uJ];exact P))) k ?_ ?_
 .exact ⟨0,zOm,zOm,zSi,zSi,zSi,by simp[go_sem,divN],zSi,0,0,0,zSi,fun i P=>zOm⟩
 rintro m st ⟨j,rfl,hj,e1,p,R,e9,o,c0,c1,c2,hm,hc⟩;by_cases a8:j<k
 .obtain ⟨d,rfl⟩:∃ d:Nat,k=j+1+d:=⟨k-(j+1),zOm⟩
  have t:d=0\/d=1\/d=2:=zOm;have ex:(((j+1+d:Nat):Int)-1-j)=(d:Int):=zOm;rw[ex]at o;have T:=V7 N r hp zOm j;have a9:(r:Int)<=8000:=zOm;have hq:(divN N r j).tdiv N=divN N r (j+1):=by rw[divN,Int.tdiv_eq_ediv_of_nonneg T.1]
  have C:(divN N r j).tmod N=divN N r j % N:=uO T.1;have a6:=V7 N r hp zOm (j+1);have w1:qx.wrap (divN N r (j+1))=divN N r (j+1):=zWr;have J:¬N=0:=zOm;have aa:(digs N (j+1) r)=(divN N r j % N) :: digs N j r:=Ks N j r;have a4:=uJ N j r;rcases t with t|t|t
  .have l:st.tm 10=aI 0:=by rw[o,t];rfl
   have U:qx.wrap (-1) = -1:=zWr;simp[go_sem,p,R,e9,l,hm,J,hq,C,w1,U];refine Keep.loop (j+1+d-(j+1)) zOm ⟨j+1,rfl,zOm,zS1 e1,zS1 p,zS1 R,zSi,by simp[go_sem];omega,divN N r j % N,c1,c2,zSi,fun i P=>?_⟩
   grind
  .have l:st.tm 10=aI 1:=by rw[o,t];rfl
   have U:qx.wrap (0)=0:=zWr;simp[go_sem,p,R,e9,l,hm,J,hq,C,w1,U];refine Keep.loop (j+1+d-(j+1)) zOm ⟨j+1,rfl,zOm,zS1 e1,zS1 p,zS1 R,zSi,by simp[go_sem];omega,c0,divN N r j % N,c2,zSi,fun i P=>?_⟩
   grind
  .have l:st.tm 10=aI 2:=by rw[o,t];rfl
   have U:qx.wrap (1)=1:=zWr;simp[go_sem,p,R,e9,l,hm,J,hq,C,w1,U];refine Keep.loop (j+1+d-(j+1)) zOm ⟨j+1,rfl,zOm,zS1 e1,zS1 p,zS1 R,zSi,by simp[go_sem];omega,c0,c1,divN N r j % N,zSi,fun i P=>?_⟩
   grind
 .have a5:j=k:=by omega
  subst a5;have hn:¬(j:Int)<=(j:Int)-1:=zOm;have h3:(j:Int)<=3:=zOm;simp[go_sem,e1,p,o,hm,hn,h3];have a4:=uJ N j r;have:=qbI (mu:=[.arr [aI c0,aI c1,aI c2]]) (b:=0) (cells:=[aI c0,aI c1,aI c2]) (ds:=digs N j r) rfl fun i P=>by
   have:=hc i zOm;rw[Nat.sub_self,yw]at this;rw[show [aI c0,aI c1,aI c2]=[c0,c1,c2].map aI from rfl,qZ,this];rfl
  grind
def fitB(sc:Sc)(ds g:List Int):Bool:=allN (fun i=>decide (yM sc (gI ds i)=gI g i)) g.length
theorem qbK(sc:Sc)(g:GSc sc)(ds j:List Int)(hl:ds.length=j.length)(U:j.length<=3)(hd:∀ d,d∈ds->0<=d/\d<=1000):qd qb 119 [eSc sc,lI ds,lI j] (aB (fitB sc ds j)):=by
 refine qSU call119 func119 rfl ?_;refine qk.up j.length (fun k st=>st.tm 1=lI ds/\st.tm 2=lI j/\st.tm 3 = .ip [lI sc.sC,aI sc.sN]/\st.tm 7=aI k/\∀ i,i<k->yM sc (gI ds i)=gI j i) ?_ ?_
 .simp [go_sem]
 rintro k st hk ⟨J,r,P,p,hi⟩;by_cases l:k<j.length
 .have o:k<ds.length:=by omega
  have t:=hd ds[k] (qo o);obtain⟨d,C⟩:=Int.eq_ofNat_of_zero_le t.1;simp[go_sem,r,p,l];refine aQ zKr ?_;simp[go_sem,J,P,p,o];have R:=qbH sc g d zOm;rw[<-C]at R;refine cA R (.zk (qX _) (.zs .nil)) ?_;have g1:gI ds k=ds[k]:=ux o;have g2:gI j k=j[k]:=ux l;by_cases T:yM sc ds[k]=j[k]
  .simp [go_sem,J,r,P,p,l,T]
   refine⟨zWr,fun i a0=>?_⟩;by_cases h:i=k
   .grind
   grind
  .have hf:fitB sc ds j=false:=mc l (by grind)
   rw[hf];simp[go_sem,r,p,l,T];exact .zsc _
 .have I:k=j.length:=by omega
  subst I;have hf:fitB sc ds j=true:=Vo.2 fun i h=>by grind
  rw[hf];simp[go_sem,r,p];exact .zsc _
theorem Kt(n:Int)(i:0<n)(g:n<=20):∀(k:Nat) (r:Int),∀ d,d∈digs n k r->0<=d/\d<=1000
 | 0,_,d,h=>by simp[digs]at h
 |k+1,r,d,h=>by
  rw[digs,qR]at h;rcases h with h|h
  .exact Kt n i g k _ d h
  .rw [qV]at h;subst h
   have j:=Int.emod_nonneg r (show n≠0 by omega);have l:=Int.emod_lt_of_pos r i;omega
def yX(sc:Sc)(g:List Int)(r:Nat):List Int:=((qm r).filter fun k:Nat=>fitB sc (digs (sumI sc.sC) g.length k) g).map fun k:Nat=>(k:Int)
theorem qbL(sc:Sc)(g:List Int)(r:Nat):yX sc g (r+1)=yX sc g r++(if fitB sc (digs (sumI sc.sC) g.length r) g then [(r:Int)] else []):=by
 unfold yX;rw[List.range_succ,List.filter_append,yv];by_cases h:fitB sc (digs (sumI sc.sC) g.length r) g=true<;>simp[h]
theorem Ku(sc:Sc)(g:List Int)(r:Nat):(yX sc g r).length<=r:=by
 grind [List.length_filter_le,fitB,digs,sumI,qm,List.length_range,yX]
theorem qbM(sc:Sc)(g:List Int)(r:Nat):(yX sc g r).Pairwise (·<·):=by
 unfold yX;rw[List.pairwise_map];exact(List.pairwise_lt_range.filter _).imp fun h=>zOm
def jG(sc:Sc)(g:List Int):List Int:=yX sc g (sumI sc.sC ^ g.length).toNat
theorem qbN(sc:Sc)(g:GSc sc)(hp:0<sumI sc.sC)(i:List Int)(h1:1<=i.length)(h3:i.length<=3)(hs:∀ s,s∈i->0<=s/\s<sc.sC.length):qd qb 83 [eSc sc,lI i] (eRel ⟨i.length,jG sc i⟩):=by
 have I:=g.sum sc.sC.length;rw[zt]at I;have a2:=Yr (sumI sc.sC) I.1 I.2 i.length h3;obtain⟨R,hR⟩:=Int.eq_ofNat_of_zero_le a2.1;have a3:jG sc i=yX sc i R:=by rw[jG,hR];rfl
 refine qSV call83 func83 rfl ?_;have n1:¬(i.length:Int)<1:=zOm;have n3:¬(3:Int)<(i.length:Int):=zOm;simp[go_sem,n1,n3];refine qk.up i.length (fun k st=>st.tm 1=lI i/\st.tm 2 = .ip [lI sc.sC,aI sc.sN]/\st.tm 4 = .ptr 0 0/\st.tm 5=aI i.length/\st.tm 6=aI k/\st.mu=[.arr [aI 0,.lst true []]]) ?_ ?_
 .simp [go_sem]
 rintro k st hk ⟨e1,t,e4,p,e6,hm⟩;by_cases o:k<i.length
 .have a5:=hs i[k] (qo o)
  have m1:¬i[k]<0:=zOm;have m2:¬(sc.sC.length:Int)<=i[k]:=zOm;simp[go_sem,p,e6,hm,o];refine aQ zKr ?_;simp[go_sem,e1,t,e4,p,e6,o,m1,m2]
  grind [yi]
 have T:k=i.length:=zOm;subst T;simp[go_sem,p,e6,hm];refine cC (fun m st=>∃ k P j,m=R-k/\k<=R/\st.tm 1=lI i/\st.tm 2 = .ip [lI sc.sC,aI sc.sN]/\st.tm 4 = .ptr 0 0/\st.tm 5=aI i.length/\st.tm 7 = .ptr 1 0/\st.tm 8=aI (k:Nat) /\
  st.mu=[.arr [aI 0,.lst true []],.arr [aI i.length,P]]++j/\OwnF 2 ([.dead,.dead]++j) 1 P ((yX sc i k).map rI)) R ?_ ?_
 .exact ⟨0,.lst true [],[],zOm,zOm,zS1 e1,zS1 t,zS1 e4,zS1 p,zSi,zSi,zSi,by grind [yX,OwnF.nil]⟩
 rintro m st ⟨k,P,j,rfl,hk,e1,t,e4,p,e7,e8,hm,ho⟩;have ho:=ho.low (low:=[.dead,.dead]) (low':=[.arr [aI 0,.lst true []],.arr [aI i.length,P]]) rfl;simp[go_sem,t,p,e8,hm];refine cA (Ko sc g i.length h3) (.zk (qX _) (.zs .nil)) ?_;rw[hR];by_cases o:k<R
 .simp [go_sem,t,p,e8,o]
  refine cA (qbJ sc g hp i.length h3 k zOm) (.zk (qX _) (.zs (.zs .nil))) ?_;simp[go_sem,e1,t];refine cA (qbK sc g _ i (uJ _ _ _) h3 (Kt _ hp zOm _ _)) (.zk (qX _) (.zk (qM _) (.zk (qM _) .nil))) ?_;have U:=qbL sc i k;have a6:=Ku sc i k;cases hb:fitB sc (digs (sumI sc.sC) i.length k) i with
  |false =>
   rw[hb]at U;simp[go_sem,e8];refine Keep.loop (R-(k+1)) zOm ⟨k+1,P,j,rfl,zOm,zS1 e1,zS1 t,zS1 e4,zS1 p,zS1 e7,?_,zSi,?_⟩
   .simp [go_sem];grind [yi]
   grind
  |true =>
   rw[hb]at U;simp[go_sem,e7,e8];refine fY (low:=[.arr [aI 0,.lst true []],.arr [aI i.length,P]]) (e:=3) (bt:=8) (z:=0) (xs:=yX sc i k) (ys:=[(k:Int)]) zSi zSi zSi zOm ho (by simp[qE]) zSo ?_;intro a4 a0 a1;simp[go_sem,e7,e8,a1.cells,a1.one];refine Keep.loop (R-(k+1)) zOm ⟨k+1,a4,a0,rfl,zOm,zS1 e1,zS1 t,zS1 e4,zS1 p,zS1 e7,?_,zSi,?_⟩
   .simp [go_sem];grind [yi]
   .rw [U]
    simpa[go_sem] using a1.low (low':=[.dead,.dead]) rfl
 .have T:k=R:=by omega
  subst T;simp[go_sem,e4,e7,ho.one];rw[a3];exact Rd.rel (r:=⟨i.length,yX sc i k⟩) (ho.low (low:=[.arr [aI 0,.lst true []],.arr [aI i.length,P]]) (low':=[.arr [aI i.length,P],.arr [aI i.length,P]]) rfl).rdI
end G5
namespace GM
end GM
namespace GP
end GP
namespace GQ
end GQ
namespace GR
open EO F4
section
variable {mu:Mu}
theorem yj.ownB{P:qf}{t g e sz bt:Nat}{s x:AV}{xs ys:List (List AV)}{zv:AV}{K:AV->Mu->Prop}(T:qy P t=some (e,sz,bt))(j:(qy P g).isSome=true)(U:qv P e=some zv)
  (l:zv.cells.length=sz) (o:zv.cells.all AV.one=true) (r:sz≠0) (hb:bt<=16384) (ho:Own mu sz s xs) (hx:qE mu x=some ys) (J:za sz xs) (wy:za sz ys) (R:xs.length+ys.length<=4294967296)
  (k:∀ av p,Own p sz av (xs++ys)->(∀ i,i<mu.length->qw s≠some i->p[i]?=mu[i]?)->(∀ b,qw av=some b->b=mu.length)->mu.length<=p.length->(ys≠[]->∃ b,qw av=some b)->K av p):yj P mu #[t,g] s x K:=by
 refine⟨t,g,e,sz,bt,ys,rfl,T,j,⟨zv,U,l,o⟩,r,hb,hx,wy,?_⟩;rcases ho with rfl|⟨b,rfl,hc⟩
 .refine .inl ⟨xs,rfl,J,R,fun h=>?_,fun h=>?_⟩
  .subst h
   exact k _ _ (.inl zSp) (fun _ _ _=>rfl) (fun b h=>by cases h) (qr _) (fun h=>absurd rfl h)
  .refine k _ _ (.inr ⟨mu.length,zSp,zSp⟩) (fun i C _=>?_) (fun b h=>by cases h;rfl) zSp (fun _=>⟨_,rfl⟩)
   rw[qT C]
 .have a0:=z2 J.ok
  refine .inr ⟨b,xs.length,xs.flatten,rfl,hc,zOm,R,?_⟩;have a1:xs.flatten.take (xs.length*sz)=xs.flatten:=zi zOm;refine k _ _ (.inr ⟨mu.length,zSp,?_⟩) (fun i C I=>?_) (fun b h=>by cases h;rfl) zSp (fun _=>⟨_,rfl⟩)
  .grind
  .rw [qT (zUs C)]
   rw[jK (fun e=>I (by rw[e];rfl))]
theorem V8{C:Type}{f g:C->List AV}:∀{l:List C},(∀ a,a∈l->Rds mu (f a) (g a))->∀(k:Nat) x y,(l.map f).flatten[k]?=some x->(l.map g).flatten[k]?=some y->Rd mu x y
 | [],_,k,x,y,i,_=>by simp at i
 |a :: l,h,k,x,y,i,j=>by
  obtain⟨o,p⟩:=(h a (q8 ..)).get;simp only[List.map_cons,List.flatten_cons]at i j;by_cases r:k<(f a).length
  .rw [qT r]at i
   rw[zGa]at j;exact p k x y i j
  .rw [zo zOm]at i
   rw[zo zOm,o]at j;exact V8 (fun b t=>h b (qJ _ t)) _ x y i j
theorem aW{C:Type}{sz:Nat}{av:AV}{f g:C->List AV}{l:List C}(h:Own mu sz av (l.map f))(wf:ya sz (l.map f))(j:ya sz (l.map g))(p:∀ a,a∈l->Rds mu (f a) (g a)):Rd mu av (.lst false (l.map g)):=by
 rcases h with rfl|⟨b,rfl,r⟩
 .refine .wk _ true _ (.lst true _ _ zSp (fun k x y i o=>?_) (V8 p))
  rw[wf x (qY i),j y (qY o)]
 .refine .sl b sz 0 _ _ _ r (zW1 (z2 wf)) zSp j (fun k x y i o=>?_)
  rw[yw]at i
  grind [V8]
theorem V9:∀{l:List Int},l≠[]->(∀ a,a∈l->1<=a)->1<=sumI l
 | [],h,_=>absurd rfl h
 | [a],_,h=>by simp_all[sumI]
 |a :: b :: l,_,h=>by
  have j:=h a zSp;have g:=V9 (l:=b :: l) zSp fun x i=>h x (qJ _ i)
  simp only[sumI,List.foldr_cons]at g⊢;omega
end
end GR
namespace JG
open Y1 JE JF
def nF:Nd := .mk 1 (bA [102]) 0 [] 0
def qbO:Nd := .mk 31 (bA []) 0 [] 0
theorem tabOf{E:EnvJ}(g:uw qb E)(n:Nat){f:us}{l:List (List AV×AV)}(h:l.all (fun p=>eqLi (eqV 64) (p.1.map (nV 64)) p.1&&wA E n f p.1 p.2)=true):yK qb f (y9 (tabX l)):=by
 refine Qn (Qo fun p i=>?_);have:=qu.1 h p i;rw[qi]at this;rw[vu (fun a b=>u7) this.1];exact uI g this.2
theorem Ys{f:us}{l:List (List AV×AV)}(h:l.all (fun p=>eqLi (eqV 64) (p.1.map (nV 64)) p.1)=true)(i:∀ p,p∈l->qd qb f p.1 p.2):yK qb f (y9 (tabX l)):=by
 refine Qn (Qo fun p g=>?_);rw[vu (fun a b=>u7) (qu.1 h p g)];exact i p g
theorem wB{l:List (us×yz)}{f:us}{h:yz}(i:∀ p,p∈l->yK qb p.1 p.2)(j:yK qb f h):∀ p,p∈(f,h) :: l->yK qb p.1 p.2:=fun p g=>by
 rcases qp.1 g with rfl|g
 .exact j
 .exact i p g
end JG
namespace GS
open P1
abbrev vsT(ts:TS):List Bool:=ts.sA.map fun f=>f.var
end GS
namespace GU
end GU
namespace GY
end GY
namespace GZ
end GZ
namespace GN
open E3
instance:DecidableEq Sc:=fun a b=>decidable_of_iff (a.sC=b.sC/\a.sN=b.sN) (by
 obtain⟨a1,a2⟩:=a;obtain⟨b1,b2⟩:=b;simp)
instance:DecidableEq Md:=fun a b=>decidable_of_iff (a.sc=b.sc/\a.sK=b.sK/\a.loop=b.loop) (by
 obtain⟨a1,a2,a3⟩:=a;obtain⟨b1,b2,b3⟩:=b;simp)
end GN
namespace GV
end GV
namespace GW
open G5
theorem qbP(sc:Sc)(g:GSc sc)(l:List Int)(j:l.length<=3):(jG sc l).length<=8000:=by
 have i:=g.sum sc.sC.length;rw[zt]at i;have o:=Yr (sumI sc.sC) i.1 i.2 l.length j;refine Nat.le_trans (Ku _ _ _) ?_;omega
end GW
namespace GX
end GX
namespace HA
end HA
namespace HB
end HB
namespace HC
end HC
namespace HD
end HD
namespace HE
end HE
namespace HF1
open EO F4 GB GD GF GR GH
theorem VJ(a b:Sc)(R:a.sC.length<=1000000)(T:b.sC.length<=1000000):qd qb 20 [eSc a,eSc b] (aB (decide (a.sN=b.sN/\a.sC=b.sC))):=by
 refine qSV call20 func20 rfl ?_;by_cases p:a.sN=b.sN
 .by_cases I:a.sC.length=b.sC.length
  .have P:(a.sC.length:Int)=b.sC.length:=by omega
   simp[go_sem,p,I];refine qk.up a.sC.length (fun k st=>st.tm 2 = .ip [lI a.sC,aI a.sN]/\st.tm 3 = .ip [lI b.sC,aI b.sN]/\st.tm 5=aI k/\∀(i:Nat) (h:i<k) (R:i<a.sC.length) (T:i<b.sC.length),a.sC[i]=b.sC[i]) ?_ ?_
   .exact ⟨zS1 p,zSi,zSi,fun i h=>absurd h (Nat.not_lt_zero i)⟩
   rintro k st hk ⟨r,t,C,l⟩;by_cases j:k<a.sC.length
   .have g:k<b.sC.length:=by omega
    have U:=zWk k;simp[go_sem,r,t,C,j,g];refine aQ zKr ?_;simp[go_sem,r,t,C,j,g];by_cases J:a.sC[k]=b.sC[k]
    .simp [go_sem,r,t,C,j,g,J,U]
     exact fun i hi _ _=>by
      by_cases h:i<k
      .exact l i h _ _
      .have:i=k:=by omega
       subst this;exact J
    .have o:¬(a.sN=b.sN/\a.sC=b.sC):=fun e=>J (by simp only[e.2])
     simp[go_sem,r,t,C,j,g,J];rw[decide_eq_false (fun e=>o ⟨p,e⟩)];exact .zsc _
   .have he:a.sC=b.sC:=List.ext_getElem I fun i h h'=>l i zOm h h'
    simp[go_sem,r,t,C,show ¬k<a.sC.length from j];rw[decide_eq_true he];exact .zsc _
  .have P:¬(a.sC.length:Int)=b.sC.length:=by omega
   have o:¬a.sC=b.sC:=fun e=>I (by rw[e])
   simp[go_sem,p,I,o];exact .zsc _
 .simp [go_sem,p]
  exact .zsc _
abbrev cEd(e:Ed):List AV:=[aI e.kind,aI e.state,aI e.field,aI e.tup]
abbrev lEd(l:List Ed):AV := .lst false (l.map cEd)
theorem jp(xs:List Ed):za 4 (xs.map cEd):=fun r g=>by
 obtain⟨n,_,rfl⟩:=qs.1 g;exact⟨rfl,rfl⟩
theorem yN(l:List Ed):HF (lEd l):=HF.lst fun r i c g=>by
 obtain⟨n,_,rfl⟩:=qs.1 i;simp at g;rcases g with rfl|rfl|rfl|rfl<;>exact HF.sc _
theorem Kv{a b:Ed}:a=b↔a.kind=b.kind/\a.state=b.state/\a.field=b.field/\a.tup=b.tup:=by
 cases a;cases b;simp
instance:DecidableEq Ed:=fun a b=>decidable_of_iff _ Kv.symm
theorem ed_if(a b:Ed):(if a.kind=b.kind then if a.state=b.state then if a.field=b.field then if a.tup=b.tup then some true else some false else some false else some false else some false)=some (decide (a=b)):=by
 by_cases h:a=b
 .subst h;simp
 .rw [decide_eq_false h]
  rw[Kv]at h
  repeat' split
  all_goals first|rfl|exact absurd ⟨by assumption,by assumption,by assumption,by assumption⟩ h
theorem qbQ(a b:List Ed)(P:a.length<=1000000)(R:b.length<=1000000):qd qb 27 [lEd a,lEd b] (aB (decide (a=b))):=by
 refine qSV call27 func27 rfl ?_;by_cases C:a.length=b.length
 .have J:(a.length:Int)=b.length:=by omega
  simp[go_sem,C];refine qk.up a.length (fun k st=>st.tm 0=lEd a/\st.tm 1=lEd b/\st.tm 5=aI k/\∀(i:Nat) (h:i<k) (P:i<a.length) (R:i<b.length),a[i]=b[i]) ?_ ?_
  .exact ⟨zSi,zSi,zSi,fun i h=>absurd h (Nat.not_lt_zero i)⟩
  rintro k st hk ⟨p,r,t,l⟩;by_cases j:k<a.length
  .have g:k<b.length:=by omega
   have T:=zWk k;simp[go_sem,p,r,t,j,g];refine aQ zKr ?_;simp[go_sem,p,r,t,j,g];rw[ed_if];by_cases I:a[k]=b[k]
   .simp [go_sem,p,r,t,j,g,I,T]
    exact fun i hi _ _=>by
     by_cases h:i<k
     .exact l i h _ _
     .have:i=k:=by omega
      subst this;exact I
   .have o:¬a=b:=fun e=>I (by simp only[e])
    simp[go_sem,p,r,t,j,g,I];rw[decide_eq_false o];exact .zsc _
  .have U:a=b:=List.ext_getElem C fun i h h'=>l i zOm h h'
   simp[go_sem,p,r,t,show ¬k<a.length from j];rw[decide_eq_true U];exact .zsc _
 .have J:¬(a.length:Int)=b.length:=by omega
  have o:¬a=b:=fun e=>C (by rw[e])
  simp[go_sem,C,o];exact .zsc _
def oppL(l:List Ed):List Ed:=l.map fun e=>{ e with kind:=3-e.kind }
theorem qbR(l:List Ed)(hl:l.length<=100000)(R:∀ e,e∈l->0<=e.kind/\e.kind<=3):qd qb 28 [lEd l] (lEd (oppL l)):=by
 refine qSU call28 func28 rfl ?_;refine fZ l.length (fun k st=>st.tm 0=lEd l/\st.tm 4=aI k/\Own st.mu 4 (st.tm 3) ((oppL (l.take k)).map cEd)) ?_ ?_
 .exact ⟨zSi,zSi,.inl (by simp[go_sem,oppL])⟩
 rintro k st T ⟨i,o,t⟩;by_cases g:k<l.length
 .have U:=zWk k
  have a0:=R _ (qo g);have w2:qx.wrap (3-l[k].kind)=3-l[k].kind:=zWr;have a1:=List.length_take_le k l;have hs:oppL (l.take (k+1))=oppL (l.take k)++[{ l[k] with kind:=3-l[k].kind }]:=by
   rw[ua g,oppL,yv];rfl
  simp[go_sem,i,o,g,w2];refine qI.ownB (e:=78) (sz:=4) (bt:=32) (zv := .agg [aI 0,aI 0,aI 0,aI 0]) (xs:=(oppL (l.take k)).map cEd) (ys:=[cEd { l[k] with kind:=3-l[k].kind }]) zSi zSi zSi rfl rfl zOm zOm (Own.push t _) (by simp[qE]) (jp _) (jp [_]) (by simp[oppL];omega) ?_;intro a2 p C _ _ _;simp[go_sem,i,o,U]
  try refine⟨g,aK ?_⟩
  try refine aK ?_
  refine⟨zS1 i,zSi,?_⟩;rw[hs,yv];simpa[go_sem] using C
 .have I:k=l.length:=by omega
  subst I;rw[zt]at t;simp[go_sem,i,o];exact Own.rd t (jp _).ok fun r hr c P=>by
   obtain⟨n,_,rfl⟩:=qs.1 hr;simp at P;rcases P with rfl|rfl|rfl|rfl<;>exact HF.sc _
end HF1
namespace HG
open YF P1 E1 E3 E4 GB GS HF1
theorem Ua(vs:List Bool)(s f:Nat)(t:Int):∀(l:List Ed) (w:Bool),(∀ e,e∈l->mine vs s f t e=false)->zM vs s f t l w=w
 | [],w,_=>rfl
 |e :: l,w,h=>by
  have i:=h e (q8 ..);have g:=Ua vs s f t l w fun x j=>h x (qJ _ j)
  unfold zM at g⊢;rw[List.foldl_cons,i];exact g
theorem Kw(vs:List Bool)(s f:Nat)(t:Int)(l:List Ed)(w:Bool)(j:Nat)(g:j<l.length)(i:mine vs s f t l[j]=true)(h:∀ e,e∈l.drop (j+1)->mine vs s f t e=false):zM vs s f t l w=decide (l[j].kind=1):=by
 have e:l=l.take (j+1)++l.drop (j+1):=(uN ..).symm;have o:zM vs s f t l w=zM vs s f t (l.drop (j+1)) (zM vs s f t (l.take (j+1)) w):=by
  conv=>lhs;rw[e]
  unfold zM;rw[UO]
 rw[o,Ua _ _ _ _ _ _ h,ua g];unfold zM;rw[UO];simp[i]
theorem qbS(vs:List Bool)(s f:Nat)(t:Int)(e:Ed)(i:0<=e.field):mine vs s f t e=(decide (e.field=f)&&(decide (e.tup=t)&&(decide (e.state=s)||!(vs.getD f true)))):=by
 unfold mine hits;by_cases h:f=e.field.toNat
 .have g:e.field=f:=by omega
  rw[decide_eq_true h,decide_eq_true g,<-h,Bool.true_and,Bool.true_and,Bool.and_comm];congr 1
  .exact decide_eq_decide.2 eq_comm
  .congr 1;exact decide_eq_decide.2 eq_comm
 .have g:¬e.field=f:=by omega
  rw[decide_eq_false h,decide_eq_false g];rfl
theorem qbT(ts:TS)(m:Md)(l:List Ed)(s f:Nat)(t:Int)(hl:l.length<=1000000)(hf:f<ts.sA.length)(h0:∀ e,e∈l->0<=e.field)(hs:s<m.sK.length)(a0:f<m.sK[s].length)
  (a1:sorted m.sK[s][f].ts) (a7:m.sK[s][f].ts.length<=1000000) :
  qd qb 24 [eTS ts,eMd m,lEd l,aI s,aI f,aI t] (aB (zM (vsT ts) s f t l (decide (t∈(m.sK[s][f]).ts)))):=by
 have hv:(vsT ts).getD f true=ts.sA[f].var:=by rw[qS,qZ,qq hf];rfl
 refine qSV call24 func24 rfl ?_;have w0:qx.wrap ((l.length:Int)-1)=(l.length:Int)-1:=zWr;simp[go_sem,w0];refine fZ l.length (fun k st=>st.tm 2=lEd l/\st.tm 3=aI s/\st.tm 4=aI f/\st.tm 5=aI t/\st.tm 6 = .ip (cTS ts)/\st.tm 7 = .ip (cMd m)/\st.tm 13=aI ((l.length:Int)-1-k)/\∀ e,e∈l.drop (l.length-k)->mine (vsT ts) s f t e=false) ?_ ?_
 .exact ⟨zSi,zSi,zSi,zSi,zSi,zSi,zSi,zSp⟩
 rintro k st hk ⟨C,I,J,P,R,e7,p,i⟩;by_cases T:k<l.length
 .obtain ⟨j,hj⟩:∃ j:Nat,j=l.length-1-k:=⟨_,rfl⟩
  have a2:(l.length:Int)-1-k=(j:Int):=zOm;have o:j<l.length:=zOm;rw[a2]at p;have hm:=qbS (vsT ts) s f t l[j] (h0 _ (qo o));rw[hv]at hm;rw[show l.length-k=j+1 by omega]at i;have wj:qx.wrap ((j:Int)-1)=(j:Int)-1:=zWr;have a3:l.drop (l.length-(k+1))=l[j] :: l.drop (j+1):=by
   rw[show l.length-(k+1)=j by omega];exact zH o
  have a4:(l.length:Int)-1-((k:Int)+1)=(j:Int)-1:=zOm;have go:∀ g:St,g.tm 2=lEd l->g.tm 3=aI s->g.tm 4=aI f->g.tm 5=aI t->g.tm 6 = .ip (cTS ts)->g.tm 7 = .ip (cMd m)->g.tm 13=aI ((j:Int)-1)->mine (vsT ts) s f t l[j]=false ->
    (g.tm 2=lEd l/\g.tm 3=aI s/\g.tm 4=aI f/\g.tm 5=aI t/\g.tm 6 = .ip (cTS ts)/\g.tm 7 = .ip (cMd m)/\g.tm 13=aI ((l.length:Int)-1-((k:Int)+1))/\∀ e,e∈l.drop (l.length-(k+1))->mine (vsT ts) s f t e=false):=fun g q2 q3 q4 q5 q6 q7 a5 r =>
   ⟨q2,q3,q4,q5,q6,q7,by rw[a5,a4],fun e he=>by
    rw[a3]at he;rcases qp.1 he with rfl|he
    .exact r
    .exact i e he⟩
  by_cases c1:l[j].field=f
  .by_cases c2:l[j].tup=t
   .by_cases c3:l[j].state=s
    .have U:mine (vsT ts) s f t l[j]=true:=by rw[hm];simp[c1,c2,c3]
     rw[Kw (vsT ts) s f t l _ j o U i];simp[go_sem,C,I,J,P,R,p,o,c1,c2,c3];exact .zsc _
    .cases c4:ts.sA[f].var with
     |true =>
      have r:mine (vsT ts) s f t l[j]=false:=by rw[hm];simp[c1,c2,c3,c4]
      simp[go_sem,C,I,J,P,R,p,o,c1,c2,c3,c4,hf,wj];exact⟨T,aK (go _ (zS1 C) (zS1 I) (zS1 J) (zS1 P) (zS1 R) (zS1 e7) zSi r)⟩
     |false =>
      have U:mine (vsT ts) s f t l[j]=true:=by rw[hm];simp[c1,c2,c3,c4]
      rw[Kw (vsT ts) s f t l _ j o U i];simp[go_sem,C,I,J,P,R,p,o,c1,c2,c3,c4,hf];exact .zsc _
   .have r:mine (vsT ts) s f t l[j]=false:=by rw[hm];simp[c1,c2]
    simp[go_sem,C,I,J,P,R,p,o,c1,c2,wj];exact⟨T,aK (go _ (zS1 C) (zS1 I) (zS1 J) (zS1 P) (zS1 R) (zS1 e7) zSi r)⟩
  .have r:mine (vsT ts) s f t l[j]=false:=by rw[hm];simp[c1]
   simp[go_sem,C,I,J,P,R,p,o,c1,wj];exact⟨T,aK (go _ (zS1 C) (zS1 I) (zS1 J) (zS1 P) (zS1 R) (zS1 e7) zSi r)⟩
 .have a6:k=l.length:=by omega
  subst a6;rw[Nat.sub_self,List.drop_zero]at i;rw[Ua _ _ _ _ _ _ i];rw[show (l.length:Int)-1-l.length = -1 by omega]at p;simp[go_sem,C,I,J,P,R,e7,p,hs,a0];refine fG (VC m.sK[s][f] t zOm a1) (.zk (zK _) (.zs .nil)) ?_;exact .zsc _
end HG
namespace HH
open E3 E4
theorem qbU(a b:List Int)(P:a.length<=1000000):qd qb 68 [lI a,lI b] (aB (decide (a=b))):=by
 refine qSV call68 func68 rfl ?_;by_cases C:a.length=b.length
 .have I:(a.length:Int)=b.length:=by omega
  simp[go_sem,C];refine qk.up a.length (fun k st=>st.tm 0=lI a/\st.tm 1=lI b/\st.tm 5=aI k/\∀(i:Nat) (h:i<k) (P:i<a.length) (hb:i<b.length),a[i]=b[i]) ?_ ?_
  .simp [go_sem, *]
  rintro k st hk ⟨o,p,r,t⟩;by_cases j:k<a.length
  .have g:k<b.length:=by omega
   have R:=zWk k;simp[go_sem,o,p,r,j,g];refine aQ zKr ?_;simp[go_sem,o,p,r,j,g];by_cases J:a[k]=b[k]
   .simp [go_sem,o,p,r,j,g,J,R]
    grind
   .have l:¬a=b:=fun e=>J (by simp only[e])
    simp[go_sem,o,p,r,j,g,J];rw[decide_eq_false l];exact .zsc _
  .have T:a=b:=List.ext_getElem C fun i h U=>t i zOm h U
   simp[go_sem,o,p,r,show ¬k<a.length from j];rw[decide_eq_true T];exact .zsc _
 .have I:¬(a.length:Int)=b.length:=by omega
  have l:¬a=b:=fun e=>C (by rw[e])
  simp[go_sem,C,l];exact .zsc _
theorem qbV(a b:List Rl)(R:a.length<=1000000)(T:∀ r,r∈a->r.ts.length<=4611686018427387904):qd qb 69 [lRel a,lRel b] (aB (decide (a=b))):=by
 refine qSV call69 func69 rfl ?_;by_cases I:a.length=b.length
 .have J:(a.length:Int)=b.length:=by omega
  simp[go_sem,I];refine qk.up a.length (fun k st=>st.tm 0=lRel a/\st.tm 1=lRel b/\st.tm 5=aI k/\∀(i:Nat) (h:i<k) (R:i<a.length) (hb:i<b.length),a[i]=b[i]) ?_ ?_
  .simp [go_sem, *]
  rintro k st hk ⟨o,p,t,C⟩;by_cases j:k<a.length
  .have g:k<b.length:=by omega
   have U:=zWk k;simp[go_sem,o,p,t,j,g];refine aQ zKr ?_;simp[go_sem,o,p,t,j,g];refine cA (Xx a[k] b[k] (T _ (qo j))) (.zk (zK _) (.zk (zK _) .nil)) ?_;by_cases P:a[k]=b[k]
   .simp [go_sem,o,p,t,j,g,P,U]
    grind
   .have l:¬a=b:=fun e=>P (by simp only[e])
    simp[go_sem,o,p,t,j,g,P];rw[decide_eq_false l];exact .zsc _
  .have he:a=b:=List.ext_getElem I fun i h h'=>C i zOm h h'
   simp[go_sem,o,p,t,show ¬k<a.length from j];rw[decide_eq_true he];exact .zsc _
 .have J:¬(a.length:Int)=b.length:=by omega
  have l:¬a=b:=fun e=>I (by rw[e])
  simp[go_sem,I,l];exact .zsc _
theorem Kx(l:List Rl):HF (lRel l):=HF.lst fun r i c g=>by
 obtain⟨n,_,rfl⟩:=qs.1 i;simp at g;rcases g with rfl|rfl
 .exact HF.sc _
 .exact qM _
theorem qbW{a b:Md}:a=b↔a.sc.sC=b.sc.sC/\a.sc.sN=b.sc.sN/\a.loop=b.loop/\a.sK=b.sK:=by
 obtain⟨⟨_,_⟩,_,_⟩:=a;obtain⟨⟨_,_⟩,_,_⟩:=b
 grind
theorem Ky(a b:Md)(P:a.sc.sC.length<=1000000)(hs:a.sK.length<=1000000)(R:∀ s,s∈a.sK->s.length<=1000000/\∀ r,r∈s->r.ts.length<=4611686018427387904):qd qb 26 [eMd a,eMd b] (aB (decide (a=b))):=by
 refine qSU call26 func26 rfl ?_;refine cA (qbU a.sc.sC b.sc.sC P) (.zk (qM _) (.zk (qM _) .nil)) ?_;by_cases c0:a.sc.sC=b.sc.sC
 case neg =>
  have g:¬a=b:=fun e=>c0 (by rw[e])
  simp[go_sem,c0,g];exact .zsc _
 by_cases c1:a.sc.sN=b.sc.sN
 case neg =>
  have g:¬a=b:=fun e=>c1 (by rw[e])
  simp[go_sem,c0,c1,g];exact .zsc _
 by_cases c2:a.loop=b.loop
 case neg =>
  have g:¬a=b:=fun e=>c2 (by rw[e])
  simp[go_sem,c0,c1,c2,g];exact .zsc _
 by_cases c3:a.sK.length=b.sK.length
 case neg =>
  have g:¬a=b:=fun e=>c3 (by rw[e])
  have T:¬(a.sK.length:Int)=b.sK.length:=zOm;simp[go_sem,c0,c1,c2,c3,g];exact .zsc _
 simp[go_sem,c0,c1,c2,c3];refine qk.up a.sK.length (fun k st=>st.tm 2 = .ip (cMd a)/\st.tm 3 = .ip (cMd b)/\st.tm 5=aI k/\∀(i:Nat) (h:i<k) (P:i<a.sK.length) (hb:i<b.sK.length),a.sK[i]=b.sK[i]) ?_ ?_
 .simp [go_sem, *]
 rintro k st hk ⟨o,p,t,C⟩;by_cases l:k<a.sK.length
 .have j:k<b.sK.length:=by omega
  have U:=zWk k;have I:=R _ (qo l);simp[go_sem,o,p,t,l,j];refine aQ zKr ?_;simp[go_sem,o,p,t,l,j];refine cA (qbV a.sK[k] b.sK[k] I.1 I.2) (.zk (Kx _) (.zk (Kx _) .nil)) ?_;by_cases J:a.sK[k]=b.sK[k]
  .simp [go_sem,o,p,t,l,j,J,U]
   grind
  .have g:¬a=b:=fun e=>J (by simp only[e])
   simp[go_sem,o,p,t,l,j,J];rw[decide_eq_false g];exact .zsc _
 .have he:a=b:=qbW.2 ⟨c0,c1,c2,List.ext_getElem c3 fun i h h'=>C i zOm h h'⟩
  simp[go_sem,o,p,t,show ¬k<a.sK.length from l];rw[decide_eq_true he];exact .zsc _
end HH
namespace HI
open E1 E3 E4 GF
def wthB(b:Bd)(r:Rl):Bool:=decide (b.lo.ar=r.ar)&&(decide (b.up.ar=r.ar)&&(inOk b.lo r&&inOk r b.up))
theorem qbX(b:Bd)(r:Rl)(i:b.lo.ts.length<=1000000000)(j:b.up.ts.length<=1000000000)(g:r.ts.length<=1000000000)(s1:sorted r.ts)(l:sorted b.up.ts):qd qb 67 [eBd b,eRel r] (aB (wthB b r)):=by
 refine qSV call67 func67 rfl ?_;unfold wthB;by_cases c1:b.lo.ar=r.ar
 .by_cases c2:b.up.ar=r.ar
  .simp [go_sem,c1,c2]
   refine cA (in06 b.lo r i g s1) (.cons (by rw[<-c1];exact .hf (zK _)) (.zk (zK _) .nil)) ?_;cases c3:inOk b.lo r with
   |false =>
    simp[go_sem,c1,c2,c3];exact .zsc _
   |true =>
    simp[go_sem,c1,c2,c3];refine cA (in06 r b.up g j l) (.zk (zK _) (.cons (by rw[<-c2];exact .hf (zK _)) .nil)) ?_;simp[go_sem,c1,c2,c3];exact .zsc _
  .simp [go_sem,c1,c2]
   exact .zsc _
 .simp [go_sem,c1]
  exact .zsc _
def wthS(g:List Bd)(s:List Rl):Bool:=decide (s.length=g.length)&&(g.zip s).all fun p=>wthB p.1 p.2
def cntB(g:List Bd)(m:Md):Bool:=m.sK.all (wthS g)
theorem wC{C:Type}{p:C->Bool}{l:List C}{k:Nat}(h:k<l.length)(g:p l[k]=false):l.all p=false:=by
 cases e:l.all p with
 |false=>rfl
 |true=>rw[qu.1 e _ (qo h)]at g;cases g
theorem Yt{C:Type}{p:C->Bool}{l:List C}(h:∀(i:Nat) (g:i<l.length),p l[i]=true):l.all p=true:=qu.2 fun x j=>by
 obtain⟨i,g,rfl⟩:=List.mem_iff_getElem.1 j;exact h i g
theorem qbY(l:List Bd)(m:Md)(hb:l.length<=1000000)(hs:m.sK.length<=1000000)(ob:∀ b,b∈l->b.lo.ts.length<=1000000000/\b.up.ts.length<=1000000000/\sorted b.up.ts)
  (os:∀ s,s∈m.sK->s.length<=1000000/\∀ r,r∈s->r.ts.length<=1000000000/\sorted r.ts):qd qb 25 [lBd l,eMd m] (aB (cntB l m)):=by
 refine qSU call25 func25 rfl ?_;refine fZ m.sK.length (fun k st=>st.tm 0=lBd l/\st.tm 3 = .ip (cMd m)/\st.tm 5=aI k/\∀(i:Nat) (h:i<k) (P:i<m.sK.length),wthS l m.sK[i]=true) ?_ ?_
 .exact ⟨zSi,zSi,zSi,fun i h=>absurd h (Nat.not_lt_zero i)⟩
 rintro k st hk ⟨p,t,C,J⟩;by_cases g:k<m.sK.length
 .have w1:=zWk k
  obtain⟨o1,o2⟩:=os _ (qo g);by_cases R:m.sK[k].length=l.length
  case neg =>
   have a1:¬(m.sK[k].length:Int)=l.length:=zOm;have hf:cntB l m=false:=wC g (by unfold wthS;rw[decide_eq_false R];rfl);rw[hf];simp[go_sem,p,t,C,g,R];exact .zsc _
  simp[go_sem,p,t,C,g,R];refine fZ l.length (fun j st=>st.tm 0=lBd l/\st.tm 3 = .ip (cMd m)/\st.tm 5=aI k/\st.tm 6=aI j/\∀(i:Nat) (h:i<j) (h1:i<l.length) (h2:i<m.sK[k].length),wthB l[i] m.sK[k][i]=true) ?_ ?_
  .exact ⟨zS1 p,zS1 t,zS1 C,zSi,fun i h=>absurd h (Nat.not_lt_zero i)⟩
  clear p t C;rintro j st hj ⟨p,t,C,T,U⟩;by_cases o:j<l.length
  .have w2:=zWk j
   have I:j<m.sK[k].length:=zOm;obtain⟨b1,b2,b3⟩:=ob _ (qo o);obtain⟨r1,r2⟩:=o2 _ (qo I);simp[go_sem,p,t,C,T,g,o,I];refine aQ zKr ?_;simp[go_sem,p,t,C,T,g,o,I];refine cA (qbX l[j] m.sK[k][j] b1 b2 r1 r2 b3) (.zk (VZ _) (.zk (zK _) .nil)) ?_;cases hw:wthB l[j] m.sK[k][j] with
   |false =>
    have hf:cntB l m=false:=wC g (by
     unfold wthS;rw[decide_eq_true R,Bool.true_and];exact wC (k:=j) zSo (zUs hw))
    rw[hf];simp[go_sem,p,t,C,T,g,o,I];exact .zsc _
   |true =>
    simp[go_sem,p,t,C,T,g,o,I,w2]
    try refine⟨o,aK ?_⟩
    try refine aK ?_
    refine⟨zS1 p,zS1 t,zS1 C,zSi,fun i P h1 h2=>?_⟩;by_cases h:i<j
    .exact U i h h1 h2
    .have:i=j:=by omega
     subst this;exact hw
  .have a2:j=l.length:=by omega
   have a0:wthS l m.sK[k]=true:=by
    unfold wthS;rw[decide_eq_true R,Bool.true_and];refine Yt fun i P=>?_
    simp only[List.length_zip]at P;simp only[List.getElem_zip];exact U i zOm zOm zOm
   simp[go_sem,p,t,C,T,show ¬j<l.length from o,w1]
   try refine⟨g,aK ?_⟩
   try refine aK ?_
   refine⟨zS1 p,zS1 t,zSi,fun i P h1=>?_⟩;by_cases h:i<k
   .exact J i h h1
   .have:i=k:=by omega
    subst this;exact a0
 .have hf:cntB l m=true:=Yt fun i P=>J i zOm P
  rw[hf];simp[go_sem,p,t,C,show ¬k<m.sK.length from g];exact .zsc _
end HI
namespace HJ
open YF P1 E1 E4 G5 HI
theorem vF{n:Int}{r:Rl}(h:zy n r=true):sorted r.ts:=by
 unfold zy at h;simp only[qi,decide_eq_true_eq]at h;exact h.2
def vB9(ts:TS)(sc:Sc)(f:Fld)(b:Bd):Bool:=decide (b.lo.ar=f.sS.length)&&(decide (b.up.ar=f.sS.length)&&(zy (sumI sc.sC) b.lo&&(zy (sumI sc.sC) b.up&&(inOk b.lo b.up&&inOk b.up ⟨f.sS.length,jG sc f.sS⟩))))
theorem qbZ(ts:TS)(sc:Sc)(o:List Bd)(g:GSc sc)(T:0<ts.sA.length->0<sumI sc.sC)(a2:ts.sA.length<=1000000)(hf:∀ f,f∈ts.sA->1<=f.sS.length/\f.sS.length<=3/\(∀ s,s∈f.sS->0<=s/\s<sc.sC.length)/\(jG sc f.sS).length<=8000/\sorted (jG sc f.sS))
  (hb:∀ b,b∈o->b.lo.ts.length<=1000000/\b.up.ts.length<=1000000):qd qb 97 [eTS ts,eSc sc,lBd o] (aB (decide (o.length=ts.sA.length)&&(ts.sA.zip o).all fun p=>vB9 ts sc p.1 p.2)):=by
 refine qSV call97 func97 rfl ?_;by_cases U:o.length=ts.sA.length
 case neg =>
  have a3:¬(o.length:Int)=ts.sA.length:=zOm;simp[go_sem,U];exact .zsc _
 rw[decide_eq_true U,Bool.true_and];simp[go_sem,U];refine fG (V6 sc g) (.zk (qX _) .nil) ?_;refine fZ o.length (fun k st=>st.tm 2=lBd o/\st.tm 3 = .ip (cTS ts)/\st.tm 4 = .ip [lI sc.sC,aI sc.sN]/\st.tm 7=aI (sumI sc.sC)/\st.tm 8=aI k/\∀(i:Nat) (h:i<k) (h1:i<ts.sA.length) (h2:i<o.length),vB9 ts sc ts.sA[i] o[i]=true) ?_ ?_
 .exact ⟨zSi,zSi,zSi,zSi,zSi,fun i h=>absurd h (Nat.not_lt_zero i)⟩
 rintro k st hk ⟨r,t,C,I,J,R⟩;by_cases j:k<o.length
 .have l:k<ts.sA.length:=by omega
  have hp:=T zOm;have w1:=zWk k;obtain⟨f1,f2,f3,f4,f5⟩:=hf _ (qo l);obtain⟨b1,b2⟩:=hb _ (qo j);have P:vB9 ts sc ts.sA[k] o[k]=false->((ts.sA.zip o).all fun p=>vB9 ts sc p.1 p.2)=false:=fun h=>wC (k:=k) zSo (zUs h)
  by_cases c1:o[k].lo.ar=ts.sA[k].sS.length
  case neg =>
   rw[P (by unfold vB9;rw[decide_eq_false c1];rfl)];simp[go_sem,r,t,C,I,J,j,l,c1];exact .zsc _
  by_cases c2:o[k].up.ar=ts.sA[k].sS.length
  case neg =>
   rw[P (by unfold vB9;rw[decide_eq_false c2];simp)];simp[go_sem,r,t,C,I,J,j,l,c1,c2];exact .zsc _
  simp[go_sem,r,t,C,I,J,j,l,c1,c2];refine cA (VB (sumI sc.sC) o[k].lo zOm) (.zs (.cons (by rw[<-c1];exact .hf (zK _)) .nil)) ?_;cases c3:zy (sumI sc.sC) o[k].lo with
  |false =>
   rw[P (by unfold vB9;rw[c3];simp)];simp[go_sem,r,t,C,I,J,j,l,c1,c2,c3];exact .zsc _
  |true =>
   simp[go_sem,r,t,C,I,J,j,l,c1,c2,c3];refine cA (VB (sumI sc.sC) o[k].up zOm) (.zs (.cons (by rw[<-c2];exact .hf (zK _)) .nil)) ?_;cases c4:zy (sumI sc.sC) o[k].up with
   |false =>
    rw[P (by unfold vB9;rw[c4];simp)];simp[go_sem,r,t,C,I,J,j,l,c1,c2,c3,c4];exact .zsc _
   |true =>
    simp[go_sem,r,t,C,I,J,j,l,c1,c2,c3,c4];refine aQ zKr ?_;simp[go_sem,r,t,C,I,J,j,l,c1,c2,c3,c4];refine cA (in06 o[k].lo o[k].up zOm zOm (vF c4)) (.cons (by rw[<-c1];exact .hf (zK _)) (.cons (by rw[<-c2];exact .hf (zK _)) .nil)) ?_;cases c5:inOk o[k].lo o[k].up with
    |false =>
     rw[P (by unfold vB9;rw[c5];simp)];simp[go_sem,r,t,C,I,J,j,l,c1,c2,c3,c4,c5];exact .zsc _
    |true =>
     simp[go_sem,r,t,C,I,J,j,l,c1,c2,c3,c4,c5];refine cA (qbN sc g hp ts.sA[k].sS f1 f2 f3) (.zk (qX _) (.zk (qM _) .nil)) ?_;simp[go_sem,r,t,C,I,J,j,l,c1,c2,c3,c4,c5];refine cA (in06 o[k].up ⟨ts.sA[k].sS.length,jG sc ts.sA[k].sS⟩ zOm (by simp only;omega) f5) (.cons (by rw[<-c2];exact .hf (zK _)) (.zk (zK _) .nil)) ?_;cases c6:inOk o[k].up ⟨ts.sA[k].sS.length,jG sc ts.sA[k].sS⟩ with
     |false =>
      rw[P (by unfold vB9;rw[c6];simp)];simp[go_sem,r,t,C,I,J,j,l,c1,c2,c3,c4,c5,c6];exact .zsc _
     |true =>
      have a0:vB9 ts sc ts.sA[k] o[k]=true:=by unfold vB9;rw[c3,c4,c5,c6,decide_eq_true c1,decide_eq_true c2];rfl
      simp[go_sem,r,t,C,I,J,j,l,c1,c2,c3,c4,c5,c6,w1]
      try refine⟨j,aK ?_⟩
      try refine aK ?_
      refine⟨zS1 r,zS1 t,zS1 C,zS1 I,zSi,fun i hi h1 h2=>?_⟩;by_cases h:i<k
      .exact R i h h1 h2
      .have:i=k:=by omega
       subst this;exact a0
 .have a1:((ts.sA.zip o).all fun p=>vB9 ts sc p.1 p.2)=true:=Yt fun i hi=>by
   simp only[List.length_zip]at hi;simp only[List.getElem_zip];exact R i zOm zOm zOm
  rw[a1];simp[go_sem,r,J,show ¬k<o.length from j];exact .zsc _
end HJ
namespace HK
open E1 E4 EO F4
def upto(n:Nat):List Int:=(qm n).map fun i:Nat=>(i:Int)
theorem qb0(n:Nat):upto (n+1)=upto n++[(n:Int)]:=by
 unfold upto;rw[List.range_succ,yv];rfl
theorem qb1(n:Nat):(upto n).length=n:=by simp[upto]
theorem qb2(n g:Int)(N:Nat)(h0:0<=n)(h1:n<=20)(hN:powI n g=N)(hb:N<=1000000):qd qb 22 [aI n,aI g] (eRel ⟨g,upto N⟩):=by
 refine qSU call22 func22 rfl ?_;refine cA (Xv n g h0 h1) (.zs (.zs .nil)) ?_;rw[hN];simp[go_sem];refine cC (fun m st=>∃ k P i,m=N-k/\k<=N/\st.tm 4 = .ptr 0 0/\st.tm 5 = .ptr 1 0/\st.tm 6=aI N/\st.tm 7=aI (k:Nat) /\
  st.mu=[.arr [aI 0,.lst true []],.arr [aI g,P]]++i/\OwnF 2 ([.dead,.dead]++i) 1 P ((upto k).map rI)) N ?_ ?_
 .exact ⟨0,.lst true [],[],zOm,zOm,zSi,zSi,zSi,zSi,zSi,by simpa[upto] using OwnF.nil zSp⟩
 rintro m st ⟨k,P,i,rfl,hk,I,C,R,T,hm,t⟩;have t:=t.low (low:=[.dead,.dead]) (low':=[.arr [aI 0,.lst true []],.arr [aI g,P]]) rfl;by_cases U:k<N
 .simp [go_sem,I,C,R,T,hm,U]
  refine fY (low:=[.arr [aI 0,.lst true []],.arr [aI g,P]]) (e:=3) (bt:=8) (z:=0) (xs:=upto k) (ys:=[(k:Int)]) zSi zSi zSi zOm t (by simp[qE]) (by simp[qb1];omega) ?_;intro a0 o p;simp[go_sem,C,T,p.cells,p.one];refine Keep.loop (N-(k+1)) zOm ⟨k+1,a0,o,rfl,zOm,zS1 I,zS1 C,zS1 R,?_,zSi,?_⟩
  .simp [go_sem];exact zWr
  .rw [qb0]
   simpa[go_sem] using p.low (low':=[.dead,.dead]) rfl
 .have a1:k=N:=by omega
  subst a1;simp[go_sem,I,C,R,T,hm,t.one];exact Rd.rel (r:=⟨g,upto k⟩) (t.low (low:=[.arr [aI 0,.lst true []],.arr [aI g,P]]) (low':=[.arr [aI g,P],.arr [aI g,P]]) rfl).rdI
end HK
namespace HL
open YF P1 HI Y16
def tupB(b:Bd):Bool:=decide (b.lo.ts.length<=64)&&decide (b.up.ts.length<=64)
def Yu(ts:TS)(sc:Sc)(i:List Bd)(g:Bool)(D:List Dg)(v:Bool):Bool:=Q8.zn ts&&(decide (i.length=ts.sA.length)&&(g&&(i.all tupB&&(decide (sumI sc.sC<=4)&&(decide (D.length=0)&&v)))))
theorem qb3(ts:TS)(sc:Sc)(g:List Bd)(o:Bool)(D:List Dg)(v:Bool)(hl:Q8.zn ts=true->ts.sA.length<=1000)
  (hS:Q8.zn ts=true->qd qb 61 [eTS ts,eSc sc] (aB o)) (hA:o=true->qd qb 21 [eSc sc] (aI (sumI sc.sC)))
  (hD:Q8.zn ts=true->qd qb 37 [eTS ts] (lDg D))
  (hV:Q8.zn ts=true->g.length=ts.sA.length->o=true->g.all tupB=true->sumI sc.sC<=4->D.length=0->qd qb 97 [eTS ts,eSc sc,lBd g] (aB v)) :
  qd qb 60 [eTS ts,eSc sc,lBd g] (aB (Yu ts sc g o D v)):=by
 refine qSV call60 func60 rfl ?_;unfold Yu;simp[go_sem];refine cA (Q8.qa7 ts) (.zk (qG ts) .nil) ?_;cases R:Q8.zn ts with
 |false =>
  simp[go_sem];exact .zsc _
 |true =>
  have a1:=hl R;by_cases J:g.length=ts.sA.length
  case neg =>
   have a2:¬(g.length:Int)=ts.sA.length:=zOm;simp[go_sem,J];exact .zsc _
  simp[go_sem,J];refine cA (hS R) (.zk (qG _) (.zk (qX _) .nil)) ?_;cases h3:o with
  |false =>
   simp[go_sem];exact .zsc _
  |true =>
   simp[go_sem];refine fZ g.length (fun k st=>st.tm 2=lBd g/\st.tm 3 = .ip (cTS ts)/\st.tm 4 = .ip [lI sc.sC,aI sc.sN]/\st.tm 8=aI k/\∀(i:Nat) (h:i<k) (J:i<g.length),tupB g[i]=true) ?_ ?_
   .exact ⟨zSi,zSi,zSi,zSi,fun i h=>absurd h (Nat.not_lt_zero i)⟩
   rintro k st hk ⟨P,T,e4,U,r⟩;by_cases j:k<g.length
   .have w1:=zWk k
    by_cases c1:g[k].lo.ts.length<=64
    case neg =>
     have p:(64:Int)<g[k].lo.ts.length:=zOm;have t:g.all tupB=false:=wC j (by unfold tupB;rw[decide_eq_false c1];rfl);simp[go_sem,P,U,j,p,t];exact .zsc _
    by_cases c2:g[k].up.ts.length<=64
    case neg =>
     have p:¬(64:Int)<g[k].lo.ts.length:=zOm;have C:(64:Int)<g[k].up.ts.length:=zOm;have t:g.all tupB=false:=wC j (by unfold tupB;rw[decide_eq_false c2];simp);simp[go_sem,P,U,j,p,C,t];exact .zsc _
    have p:¬(64:Int)<g[k].lo.ts.length:=zOm;have C:¬(64:Int)<g[k].up.ts.length:=zOm;simp[go_sem,P,U,j,p,C,w1]
    try refine⟨j,aK ?_⟩
    try refine aK ?_
    refine⟨zS1 P,zS1 T,zS1 e4,zSi,fun i hi J=>?_⟩;by_cases h:i<k
    .exact r i h J
    .have:i=k:=by omega
     subst this;unfold tupB;rw[decide_eq_true c1,decide_eq_true c2];rfl
   .have l:g.all tupB=true:=Yt fun i hi=>r i zOm hi
    simp[go_sem,P,T,e4,U,show ¬k<g.length from j];refine cA (hA h3) (.zk (qX _) .nil) ?_;by_cases c3:sumI sc.sC<=4
    case neg =>
     have I:4<sumI sc.sC:=zOm;simp[go_sem,I,l,c3];exact .zsc _
    have I:¬ 4<sumI sc.sC:=zOm;simp[go_sem,I,T];refine cA (hD R) (.zk (qG ts) .nil) ?_;cases D with
    |nil =>
     simp[go_sem,P,T,e4];refine cA (hV R J h3 l c3 rfl) (.zk (qG ts) (.zk (qX _) (.zk (zC _) .nil))) ?_;simp[go_sem,l,c3];exact .zsc _
    |cons d D' =>
     have a0:(0:Int)<(D'.length:Int)+1:=zOm;simp[go_sem,l,c3,a0];exact .zsc _
end HL
namespace HM
open YF P1 E3 F1 GB HF1
theorem qb4(ts:TS)(j:List Bd)(m:Md)(l:List Ed)(sm f18 o:Bool)
  (t:qd qb 18 [eTS ts,eMd m] (aB sm))
  (C:sm=true->qd qb 60 [eTS ts,eSc m.sc,lBd j] (aB f18))
  (I:sm=true->f18=true->qd qb 19 [eTS ts,eMd m] (aB o)) :
  qd qb 17 [eTS ts,lBd j,eMd m,lEd l] (aB (sm&&(decide (l.length<=30)&&(f18&&o)))):=by
 refine qSU call17 func17 rfl ?_;refine cA t (.zk (qG ts) (.zk (qN _) .nil)) ?_;cases p:sm with
 |false =>
  simp[go_sem];exact .zsc _
 |true =>
  by_cases r:l.length<=30
  case neg =>
   have g:(30:Int)<l.length:=zOm;have i:30<l.length:=zOm;simp[go_sem,r,g,i];exact .zsc _
  have g:¬(30:Int)<l.length:=zOm;have i:¬ 30<l.length:=zOm;simp[go_sem,g,r,i];refine cA (C p) (.zk (qG ts) (.zk (qX _) (.zk (zC _) .nil))) ?_;cases J:f18 with
  |false =>
   simp[go_sem];exact .zsc _
  |true =>
   simp[go_sem];refine fG (I p J) (.zk (qG ts) (.zk (qN _) .nil)) ?_;exact .zsc _
end HM
namespace HN
open GF
theorem qb5(b:Bd)(t:Int)(g:b.up.ts.length<=1000000000):qd qb 87 [eBd b,aI t] (aB (decide (t∈b.up.ts))):=by
 refine qSU call87 func87 rfl ?_;refine fG (EO.Xz b.up.ts t g) (.zk (qM _) (.zs .nil)) ?_;exact .zsc _
theorem qb6(b:Bd)(t:Int)(g:b.lo.ts.length<=1000000000):qd qb 90 [eBd b,aI t] (aB (!decide (t∈b.lo.ts))):=by
 refine qSU call90 func90 rfl ?_;refine fG (EO.Xz b.lo.ts t g) (.zk (qM _) (.zs .nil)) ?_;exact .zsc _
end HN
namespace HO
open P1 E1 E3 E9 GB GC G5 GR HJ
section
variable {t:Int}{vs:List Bool}{f nS s:Nat}{sp:Sp}{S:Sts}
abbrev edsL(vs:List Bool)(l:List Ed)(S:Sts):Sts:=l.foldl (fun S e=>edSt vs e S) S
theorem Ub{nF:Nat}(i:s<nS)(hf:f<nF):∀{l:List Ed} {S:Sts},Shp nS nF S->t∈(getR (edsL vs l S) s f).ts->t∈(getR S s f).ts\/∃ e,e∈l/\e.kind=1/\e.field.toNat=f/\e.tup=t
 | [],S,_,h => .inl h
 |e :: l,S,g,h=>by
  rcases Ub i hf (l:=l) g.ed h with h|⟨x,j,o⟩
  .rw [v8 g.lens (by rw[g.len];exact i) hf]at h
   split at h
   .rename_i p
    have h:t∈edTs e (getR S s f).ts:=h;rw[VF]at h;split at h
    .rename_i r
     exact .inr ⟨e,q8 ..,h,p.1.symm,r.symm⟩
    .exact .inl h
   .exact .inl h
  .exact .inr ⟨x,qJ _ j,o⟩
theorem Kz{nF:Nat}(i:s<nS)(hf:f<nF):∀{l:List Ed} {S:Sts},Shp nS nF S->(∀ e,e∈l->e.field.toNat=f->e.tup=t->e.kind=1)->t∈(getR S s f).ts->t∈(getR (edsL vs l S) s f).ts
 | [],S,_,_,h=>h
 |e :: l,S,g,j,h=>by
  refine Kz i hf (l:=l) g.ed (fun x o=>j x (qJ _ o)) ?_;rw[v8 g.lens (by rw[g.len];exact i) hf];split
  .rename_i p
   show t∈edTs e (getR S s f).ts;rw[VF];split
   .rename_i r
    exact j e (q8 ..) p.1.symm r.symm
   .exact h
  .exact h
theorem qb7{nF:Nat}{e:Ed}(j:Shp nS nF S)(h:Fix vs nS nF S):Fix vs nS nF (edSt vs e S):=by
 intro s o f p i hf l;rw[v8 j.lens (by rw[j.len];exact p) hf,v8 j.lens (by rw[j.len];exact i) hf,h s o f p i hf l];by_cases g:f=e.field.toNat
 .have r:hits vs e s=true:=by rw[hits,<-g,l];simp
  have t:hits vs e o=true:=by rw[hits,<-g,l];simp
  rw[if_pos ⟨g,r⟩,if_pos ⟨g,t⟩]
 .rw [if_neg (fun q=>g q.1),if_neg (fun q=>g q.1)]
theorem KA{nF:Nat}:∀{l:List Ed} {S:Sts},Shp nS nF S->Fix vs nS nF S->Fix vs nS nF (edsL vs l S)
 | [],_,_,h=>h
 |e :: l,S,g,h=>KA (l:=l) g.ed (qb7 g h)
theorem KB(sc:Sc)(n:Int):∀(q:List Int) (r:Int),(∀ i,i<q.length->yM sc ((digs n q.length r).getD i 0)=q.reverse.getD i 0)->yV sc n q r=true
 | [],_,_=>rfl
 |s :: q,r,h=>by
  have g:=uJ n q.length (r / n);have j:q.reverse.length=q.length:=List.length_reverse;rw[yV,qi,decide_eq_true_eq];refine⟨?_,KB sc n q (r / n) fun i l=>?_⟩
  .have:=h q.length zSp
   rw[zZ,digs,List.reverse_cons,qS,qS,zo zOm,zo zOm,g,j]at this;simpa using this
  .have:=h i zSo
   rw[zZ,digs,List.reverse_cons,qS,qS,zGa,zGa]at this;rw[qS,qS];exact this
theorem qb8{sc:Sc}{g:List Int}(h:t∈jG sc g):yV sc (sumI sc.sC) g.reverse t=true:=by
 unfold jG yX at h;obtain⟨r,o,rfl⟩:=qs.1 h;obtain⟨C,p⟩:=jL.1 o;refine KB sc _ _ _ fun i j=>?_
 rw[List.length_reverse]at j⊢;rw[List.reverse_reverse];have:=Vo.1 p i j;have I:=uJ (sumI sc.sC) g.length r;have l:i<(digs (sumI sc.sC) g.length r).length:=zOm;rw[ux l,ux j]at this;rw[qS,qS,qq l,qq j];simpa using this
structure UpOk (sc:Sc) (ss:List Int) (b:Bd):Prop where
 rng:∀ t,t∈b.up.ts->0<=t/\t<powI (sumI sc.sC) ss.length
 col:∀ t,t∈b.up.ts->yV sc (sumI sc.sC) ss.reverse t=true
theorem qb9{ts:TS}{sc:Sc}{f:Fld}{b:Bd}(h:vB9 ts sc f b=true):UpOk sc f.sS b:=by
 simp only[vB9,qi,decide_eq_true_eq]at h;obtain⟨o,l,p,i,r,j⟩:=h;simp only[zy,qi,decide_eq_true_eq,qu]at i;refine⟨fun t g=>?_,fun t g=>qb8 ?_⟩
 .have:=i.1.2 t g
  rw[l]at this;exact this
 .simp only[inOk,qu,decide_eq_true_eq]at j
  exact j t g
theorem zE(g:s<S.length)(hf:f<S[s].length):getR S s f=S[s][f]:=by
 unfold getR;rw[qS,qS,qq g];simp[hf]
theorem KC{m:Md}(V:MVal sp m):Shp m.sK.length sp.sA.length m.sK:=by
 refine⟨rfl,fun st g=>?_,fun s f j hf=>?_⟩
 .obtain ⟨i,l,rfl⟩:=zX g
  exact V.len i l
 .have p:=V.len s j
  have o:=(V.cell s f j hf).2.1;rw[zE j zOm];exact vF o
theorem Uc{m:Md}(V:MVal sp m):Fix (sp.sA.map fun f=>f.var) m.sK.length sp.sA.length m.sK:=by
 intro s l f j g hf i;have t:=V.len s j;have p:=V.len l g;have i:sp.sA[f].var=false:=by simpa[hf] using i
 have r:=(V.cell s f j hf).2.2.2 i;have o:=(V.cell l f g hf).2.2.2 i;rw[zE j zOm,zE g zOm];rw[r]at o;exact Option.some.inj o
theorem qcA{m:Md}{b:List Bd}{l:List Ed}(V:MVal sp m)(r:wr sp m)(h4:sumI m.sc.sC<=4)(hb:b.length=sp.sA.length)(hu:∀ i (h:i<sp.sA.length),UpOk m.sc sp.sA[i].sS b[i])
  (he:∀ e,e∈l->errE m.sK.length sp.sA.length b e=0):wr sp { m with sK:=edsL (sp.sA.map fun f=>f.var) l m.sK }/\MVal sp { m with sK:=edsL (sp.sA.map fun f=>f.var) l m.sK }:=by
 have hS:=KC V;have hF:=Uc V;have hT:Shp m.sK.length sp.sA.length (edsL (sp.sA.map fun f=>f.var) l m.sK):=hS.eds;have hG:=KA (l:=l) hS hF;have a8:∀ s f,s<m.sK.length->f<sp.sA.length->(getR (edsL (sp.sA.map fun f=>f.var) l m.sK) s f).ar=(getR m.sK s f).ar:=fun s f I hf=>Qz I hf hS
 have a6:=fun s f t I hf=>Ub (vs:=sp.sA.map fun f=>f.var) (l:=l) (s:=s) (f:=f) (t:=t) I hf hS
 generalize af:edsL (sp.sA.map fun f=>f.var) l m.sK=T at *
 have hg:=Ym V.sc;have R:0<sp.sA.length->1<=sumI m.sc.sC:=fun h=>by
  have h1:=V.fld 0 h;simp only[ve,qi,decide_eq_true_eq,qu]at h1;have h2:=h1.1.1 _ (qo (n:=0) zOm);have h3:=V.sc;simp only[yq,qi,decide_eq_true_eq,qu]at h3;obtain⟨⟨⟨⟨⟨a1,a2⟩,a3⟩,a4⟩,a5⟩,_⟩:=h3;refine V9 (fun e=>?_) fun a ha=>(a5 a ha).1
  rw[e]at a1;simp at a1;omega
 have cell:∀(s i:Nat) (I:s<T.length) (P:i<sp.sA.length) (hl:T[s].length=sp.sA.length),wu sp { m with sK:=T } s i I P hl:=by
  intro s i I P hl;have g:s<m.sK.length:=zW1 hT.len;have ag:=V.len s g;have C:=V.cell s i g P;have R:=R zOm;have ga:getR T s i=T[s][i]:=zE I zOm;have gm:getR m.sK s i=m.sK[s][i]:=zE g zOm;have ea:T[s][i].ar=m.sK[s][i].ar:=by rw[<-ga,<-gm];exact a8 s i g P
  have V0:=C.2.1;have W0:=C.2.2.1;simp only[zy,qi,decide_eq_true_eq,qu]at V0;simp only[vB,qu]at W0;rw[Int.max_eq_right R]at W0;have up:∀ t,t∈T[s][i].ts->(0<=t/\t<powI (sumI m.sc.sC) m.sK[s][i].ar)/\yV m.sc (sumI m.sc.sC) sp.sA[i].sS.reverse t=true:=by
   intro t ht;rw[<-ga]at ht;rcases a6 s i t g P ht with h|⟨e,a9,hk,aa,rfl⟩
   .rw [gm]at h
    exact⟨V0.1.2 t h,W0 t h⟩
   .have J:=he e a9
    unfold errE at J;rw[if_neg (by intro q;rw[if_pos q]at J;exact absurd J zDe)]at J;have ab:b[e.field.toNat]?=some b[i]:=by rw[aa];exact qq zOm
    rw[ab]at J;simp only at J;have a0:e.tup∈b[i].up.ts:=yR fun q=>by rw[if_pos (.inl ⟨hk,q⟩)]at J;exact absurd J zDe
    have U:=hu i P;have:=U.rng _ a0;rw[<-C.1]at this;exact⟨this,U.col _ a0⟩
  refine⟨by rw[ea];exact C.1,?_,?_,fun hv=>?_⟩
  .simp only[zy,qi,decide_eq_true_eq,qu]
   rw[ea];refine⟨⟨V0.1.1,fun t ht=>(up t ht).1⟩,?_⟩;have:=hT.srt s i g P;rw[ga]at this;exact this
  .simp only[vB,qu]
   rw[Int.max_eq_right R];exact fun t ht=>(up t ht).2
  .have J:0<T.length:=by omega
   have ae:T[0].length=sp.sA.length:=hT.lens _ (qo J);show (T[0]?.bind (·[i]?))=some T[s][i];rw[qq J,Option.bind_some,qq zOm,<-ga,<-zE J zOm];congr 1;exact hG 0 s i zOm g P (by simpa[P] using hv)
 have lens:∀(s:Nat) (h:s<T.length),T[s].length=sp.sA.length:=fun s h=>hT.lens _ (qo h)
 refine⟨⟨r.ns,r.nf,by show T.length<=64;rw[hT.len];exact r.nt,r.na,fun s I=>?_,r.fs⟩,⟨V.sc,by show (T.length:Int)=_;rw[hT.len];exact V.ns,V.l0,V.l1,V.fld,lens,fun s i I P=>cell s i I P (lens s I)⟩⟩;have a7:=lens s I;refine⟨by have:=r.nf;show T[s].length<=10;omega,fun j hj=>?_⟩;have ad:j<sp.sA.length:=by rw[<-a7];exact hj
 have C:=(cell s j I ad a7).2.1;simp only[zy,qi,decide_eq_true_eq,qu]at C;have ah:powI (sumI m.sc.sC) T[s][j].ar<=64:=by
  have e0:=C.1.1.1.1.1;have e1:=C.1.1.1.2;have e2:=C.1.1.2;have h4:sumI m.sc.sC<=4:=h4;have e0:0<=sumI m.sc.sC:=e0;generalize sumI m.sc.sC=n at *
  generalize T[s][j].ar=k at *
  rcases (show k=1\/k=2\/k=3 by omega) with rfl|rfl|rfl<;>rcases (show n=0\/n=1\/n=2\/n=3\/n=4 by omega) with rfl|rfl|rfl|rfl|rfl<;>decide
 have:=mD (m:=64) C.2 fun t ht=>by have:=C.1.2 t ht;show 0<=t/\t<((64:Nat):Int);omega
 show T[s][j].ts.length<=200;omega
theorem qcB{nF:Nat}{b:List Bd}{l:List Ed}(I:Shp nS nF S)(hb:b.length=nF)(T:∀ e,e∈l->errE nS nF b e=0){s f:Nat}(J:s<nS)(hf:f<nF)
  (h:inOk (b[f]' zOm).lo (getR S s f)=true/\inOk (getR S s f) (b[f]' zOm).up=true):inOk (b[f]' zOm).lo (getR (edsL vs l S) s f)=true/\inOk (getR (edsL vs l S) s f) (b[f]' zOm).up=true:=by
 have P:∀ e,e∈l->e.field.toNat=f->¬((e.kind=1/\e.tup ∉ (b[f]' zOm).up.ts)\/(e.kind=2/\e.tup∈(b[f]' zOm).lo.ts))/\(e.kind=1\/e.kind=2):=by
  intro e g i;have j:=T e g;unfold errE at j;have R:¬((e.kind≠1/\e.kind≠2)\/e.state<0\/(nS:Int)<=e.state\/e.field<0\/(nF:Int)<=e.field):=by intro q;rw[if_pos q]at j;exact absurd j zDe
  rw[if_neg R,i,qq zOm]at j;simp only at j;refine⟨fun q=>by rw[if_pos q]at j;exact absurd j zDe,?_⟩;by_cases p:e.kind=1
  .exact .inl p
  .exact .inr (yR fun o=>R (.inl ⟨p,o⟩))
 simp only[inOk,qu,decide_eq_true_eq]at h⊢;refine⟨fun t r=>Kz J hf I (fun e g i C=>?_) (h.1 t r),fun t r=>?_⟩
 .obtain ⟨p,o⟩:=P e g i
  rcases o with o|o
  .exact o
  .exact absurd (.inr ⟨o,by rw[C];exact r⟩) p
 .rcases Ub J hf I r with U|⟨e,g,hk,i,rfl⟩
  .exact h.2 t U
  .exact yR fun q=>(P e g i).1 (.inl ⟨hk,q⟩)
end
end HO
end Go.Proofs.YthkdjhkmlmjkbaaGreatDoor
