/-
  Own library, part 5: an abstract reading of values and a calculus over it; contracts of functions; plain lemmas.
-/
import Derived.Shelf.SlSortCmp.NoneTotal
import Derived.Test.YthflbhjlkgdafaaGreatDoorMd
set_option linter.unusedVariables false
set_option linter.unusedSimpArgs false
set_option maxRecDepth 100000
open Go renaming Program->qc,TypeId->qe,Oper->va,undef->uk
open Go.Proofs.Tryz renaming prog->qd
open List renaming getElem?_eq_some_iff->qj,mem_map->qn,range->qr,getElem_mem->qv,getElem?_eq_getElem->qw,mem_cons->qx,getElem?_set_self->qH,getElem?_append_left->qI,replicate->qM,not_mem_nil->qN,mem_singleton->qQ,mem_cons_of_mem->qU,mem_of_getElem?->qX,all_eq_true->qY,take_length->q8,map_cons->zd,drop_eq_getElem_cons->ze,length_append->zf,map_append->zh,mem_cons_self->zj,getD_eq_getElem?_getD->zr,getElem?_map->zw,append_assoc->zE,take_of_length_le->zJ,mem_range->zK,getElem?_append_right->zN,append_nil->zV,length_map->zX,drop_length->zY,getElem?_set_ne->z7,length_cons->yp,cons_append->yD,getD_cons_zero->jh,mem_filter->jM,ext_getElem?->j7,getElem?_cons_succ->vK,length_take->vO,getElem?_eq_none->uy,foldl_append->uz,take_append_drop->uA,mem_flatMap->wO,pairwise_cons->wP,getElem?_range->wQ
open Nat renaming le_refl->qk,le_trans->zH,zero_add->yK
open Go.IntKind renaming i64->qm
open Option.some renaming injEq->qp
open Bool renaming and_eq_true->qB,eq_iff_iff->vy
open Option renaming map_some->zg,map_eq_some_iff->vL
open Except.ok renaming injEq->yJ
open List.Nodup renaming length_le_of_subset->ji
open Int renaming mul_le_mul->jq
namespace Go.Proofs.YthflbhjlkgdafaaGreatDoor
open Go Go.Ev Go.Proofs Tryz
namespace F5
open Y1 YF E2 E3 EA EO EP EQ ER ET EW F1 F2 F3 F4
theorem clipE(l):qh qd 190 [lPm l] (.lst true (l.map cPm)):=by
 refine qSV call190 func190 rfl ?_;have g:List.take l.length (l.map cPm)=l.map cPm:=zJ zSp;simp[go_sem,g];exact⟨⟨_,_,⟨rfl,rfl⟩,fun r i=>by obtain⟨q,_,rfl⟩:=qn.1 i;rfl⟩,.hf _ (HF.lst fun r i c j=>by obtain⟨q,_,rfl⟩:=qn.1 i;exact Ul q c j)⟩
theorem clipI(l):qh qd 187 [lI l] (lI l):=by
 refine qSV call187 func187 rfl ?_;have g:List.take l.length (l.map rI)=l.map rI:=zJ zSp;simp[go_sem,g];exact⟨⟨_,_,⟨rfl,rfl⟩,(yY l).ok⟩,.wk _ true _ (.hf _ (HF.lst fun r i c j=>by obtain⟨q,_,rfl⟩:=qn.1 i;grind [HF.sc]))⟩
theorem XS(xs:List (dA×Int)):qS 2 (xs.map cPm):=fun r g=>by
 obtain⟨n,_,rfl⟩:=qn.1 g;exact⟨rfl,rfl⟩
abbrev insC(g:Int)(ts:List Int)(i:List Bool):List AV:=[.ip [aI g,lI ts],.ip [lB i]]
def ZS(ts:List Int)(g:List Bool):List (List AV):=(ts.zip g).map fun e=>[aI e.1,aB e.2]
theorem XT(p ts g)(t:ts.length=g.length)(hb:ts.length<=1000000):jC qd 191 (insC p ts g) (ZS ts g):=by
 refine jC.of call191 fun i I Ix hS hX C mu h0=>?_
 refine qSW call191 func191 rfl {} ?_;have J:(ZS ts g).length=ts.length:=by simp[ZS,t]
 simp[go_sem];refine aP ts.length (fun k U=>U.tm 0 = .yl i/\U.tm 2 = .ip [lB g]/\U.tm 7=lI ts/\U.tm 8=aI ts.length/\U.tm 9=aI k/\I k U.mu) ?_ ?_
 .simp [go_sem, *]
 rintro k U hk ⟨P,T,e7,e8,e9,hI⟩;by_cases j:k<ts.length
 .have w1:=zWk k
  have o:k<g.length:=zOm;have l:(ZS ts g)[k]?=some [aI ts[k],aB g[k]]:=by
   rw[ZS,zw,List.getElem?_zip_eq_some (z:=(ts[k],g[k])) |>.2 ⟨qw j,qw o⟩];rfl
  simp[go_sem,P,T,e7,e8,e9,j,o];refine qg.yield (C _ _ _ l hI) ?_;rintro b R (⟨rfl,a0⟩|⟨rfl,a1⟩)
  .simp_all [go_sem,aM]
  simp[go_sem, *]
 .have a2:k=ts.length:=by omega
  simp_all[go_sem]
def endI(l:XE (List (Int×Bool))):AEnd:=match l with
 | .ok l => .ret (.fn (.func 191) [] (insC 1 (l.map Prod.fst) (l.map Prod.snd)))
 | .error e => .pan (errV e)
theorem UD(l):endI (.ok l) = .ret (.fn (.func 191) [] (insC 1 (l.map Prod.fst) (l.map Prod.snd))):=rfl
theorem XU(e):endI (.error e) = .pan (errV e):=rfl
theorem XV(x N n a b)(hM:OkMa x N)(hk:n.sD=[a,b])(ih:IH x N n)(p)(hp:OkP x N p)(hq:bd p n) :
  qP qd 125 [eMa x,ePl p,eNd n] (endI (jH [den x a,den x b] n.name p)):=by
 refine za.of_sound ?_;refine qSW call125 func125 rfl {} ?_;have ia:=ih a (by rw[hk];simp) p hp zOm;have ha:=ia.E;have wa:=wk3 x p a;have aj:=zS x;have ak:=fun p' h1 h2=>(ih b (by rw[hk];simp) p' h1 h2).F
 generalize C:jH [den x a,den x b] n.name p=E;unfold jH at C;simp only[kD,jh,List.getD_cons_succ]at C;simp[go_sem];refine fG [0,1,2,3,4,5,6,7,8] [(0,0,[]),(1,0,[]),(2,0,[]),(3,0,[]),(4,0,[]),(5,0,[]),(6,1,[]),(7,2,[1,3,5]),(8,1,[])] zKr zKr zSi ?_;simp[go_sem,hk];cases ea:(den x a).E p with
 |error e =>
  rw[ea]at ha C;subst C;refine aC ha wa ?_;simp[go_sem,zC,XU];exact .hf _ (qL _)
 |ok d =>
  rw[ea]at ha C;rw[zi]at C;refine t7 ha.toP wa ?_;by_cases he:d.ar=1
  case neg =>
   rw[if_neg he]at C;subst C;simp[go_sem,hk,he];refine aC (wE 42) (wkI 42) ?_;simp[go_sem,XU];exact .hf _ (qL _)
  rw[if_pos he]at C;have hd:(d.ar=1)=True:=eq_true he;have gd:=ia.G _ ea;have ld:=gd.len hM.n0 (cS hM);generalize hg:(fun a=>bX ((den x b).F ⟨p.st,p.env++[(n.name,a)]⟩) fun b=>(Except.ok (a,b):XE (Int×Bool)))=g at C;simp[go_sem,hk,hd];refine aP d.ts.length (fun k U=>∃(o:List (Int×Bool)) (t:AV),mapX g (d.ts.take k) = .ok o/\o.length=k/\U.tm 0=eMa x/\U.tm 4 = .ip (cPl p)/\U.tm 5 = .ip (cNd n)/\U.tm 7 = .ptr 0 0/\U.tm 8 = .ptr 1 0/\U.tm 24=lI d.ts/\U.tm 25=aI d.ts.length/\U.tm 26=aI k /\
   U.mu[0]?=some (.arr (cRel d))/\U.mu[1]?=some (.arr [t])/\Own U.mu 1 t ((o.map Prod.snd).map rB)/\qo t≠some 0/\qo t≠some 1) ?_ ?_
  .exact ⟨[],.lst true [],rfl,rfl,zSi,zSi,zSi,zSi,zSi,zSi,zSi,zSi,zSi,zSi,.inl rfl,by simp[qo],by simp[qo]⟩
  rintro k U ay ⟨o,t,J,al,e0,e4,e5,e7,e8,ab,a5,a6,g0,g1,ho,n0,n1⟩;by_cases I:k<d.ts.length
  .have w1:=zWk k
   have hv:=gd.val _ (qv I);rw[he,um]at hv;have hF:=ak ⟨p.st,p.env++[(n.name,d.ts[k])]⟩ (hp.bind hv) zSo;have hw:=wk3 x ⟨p.st,p.env++[(n.name,d.ts[k])]⟩ b;have P:=ZR (l2:=d.ts.drop k) J;rw[uA,ze I,mapX]at P;rw[C]at P;have a0:g d.ts[k]=bX ((den x b).F ⟨p.st,p.env++[(n.name,d.ts[k])]⟩) fun b => .ok (d.ts[k],b):=by rw[<-hg]
   simp[go_sem,ab,a5,a6,I];refine fG [0,1,3,4,5,6,7,2,8,9] [(0,0,[]),(1,0,[]),(3,0,[]),(4,0,[]),(5,0,[]),(6,0,[]),(7,0,[]),(2,1,[4]),(8,1,[]),(9,0,[])] zKr zKr zSi ?_;simp[go_sem,e4,e5];refine fW (clipE p.env) (.zk (vD _) .nil) ?_;refine qu.ownB (e:=56) (sz:=2) (bt:=24) (zv := .agg [aS ⟨#[]⟩,aI 0]) (xs:=p.env.map cPm) (ys:=[cPm (n.name,d.ts[k])]) zSi zSi zSi rfl rfl zOm zOm (.inl rfl) (by simp[qy]) (XS p.env) (XS [(n.name,d.ts[k])]) zSo ?_;intro ev ad ae an az b0;have l1:1<U.mu.length:=(qj.1 g1).1;have a3:p.env.map cPm++[cPm (n.name,d.ts[k])]=(p.env++[(n.name,d.ts[k])]).map cPm:=by rw[zh];rfl
   rw[a3]at ae;have af:∀ i,i<U.mu.length->ad[i]?=U.mu[i]?:=fun i hi=>an i hi (by simp[qo])
   simp[go_sem];refine qi.fz (FzQ.ownB (d:=11) (sz:=2) (av:=ev) (xs:=(p.env++[(n.name,d.ts[k])]).map cPm) zSi ae (XS _) (fun r hr c hc=>by obtain⟨q,_,rfl⟩:=qn.1 hr;exact Ul q c hc) fun a1 full ao aq=>?_);have a7:∀ i,i<U.mu.length->a1[i]?=U.mu[i]?:=fun i hi=>(aq i (fun e=>by grind)).trans (af i hi)
   simp[go_sem];refine fG [0,1,2,3,4,5,6,7,8,9,10,11,12,13] [(0,0,[]),(1,0,[]),(2,0,[]),(3,0,[]),(4,0,[]),(5,0,[]),(6,0,[]),(7,0,[]),(8,0,[]),(9,0,[]),(10,1,[0]),(11,0,[]),(12,1,[]),(13,1,[])] zKr zKr zSi ?_;have au:=(a7 0 zOm).trans g0;have a8:=(a7 1 l1).trans g1;have a2:∀ f,WKs [eMa x,.agg [aI p.st,.lst f ((p.env++[(n.name,d.ts[k])]).map cPm)],eNd b] [eMa x,ePl ⟨p.st,p.env++[(n.name,d.ts[k])]⟩,eNd b]:=fun f =>
    .zk aj (.cons (WK.aggs (.zs (.cons (WK.lst fun r hr c hc=>by obtain⟨q,_,rfl⟩:=qn.1 hr;exact Ul q c hc) .nil))) (.zk (qC b) .nil))
   have aw:Own a1 1 t ((o.map Prod.snd).map rB):=by
    rcases ho with h|⟨bb,h,hc⟩
    .exact .inl h
    .exact .inr ⟨bb,h,by rw[a7 bb (qj.1 hc).1];exact hc⟩
   have a2:WKs [eMa x,.agg [aI p.st,.lst full (p.env.map cPm++[cPm (n.name,d.ts[k])])],.agg (cNd b)] [eMa x,ePl ⟨p.st,p.env++[(n.name,d.ts[k])]⟩,eNd b]:=by rw[a3];exact a2 full
   simp[go_sem,e0,e4,e5,e8,hk,a8];cases ef:(den x b).F ⟨p.st,p.env++[(n.name,d.ts[k])]⟩ with
   |error e =>
    rw[ef]at hF a0;rw[a0]at P;subst P;refine aC hF a2 ?_;simp[go_sem,zC,XU];exact .hf _ (qL _)
   |ok v =>
    rw[ef]at hF a0;refine t7 hF.toP a2 ?_;simp[go_sem,e8,a8];refine qu.ownB (e:=4) (sz:=1) (bt:=1) (zv:=aB false) (xs:=(o.map Prod.snd).map rB) (ys:=[rB v]) zSi zSi zSi rfl rfl zOm zOm aw (by simp[qy]) (Qe _) (Qe [v]) zSo ?_;intro a9 R aa ag ah b1;have b2:U.mu.length<=a1.length:=by
     have:a1.length=ad.length:=ao;omega
    have k0:R[0]?=some (.arr (cRel d)):=(ag 0 zOm n0).trans au;have k1:R[1]?=some (.arr [t]):=(ag 1 zOm n1).trans a8;have m0:qo a9≠some 0:=fun e=>zW1 (ah 0 e)
    have m1:qo a9≠some 1:=fun e=>zW1 (ah 1 e)
    simp[go_sem,e8,a6,k1,Own.one aa,Own.cells aa,w1];refine⟨I,aM ⟨o++[(d.ts[k],v)],a9,?_,zP1 al,zS1 e0,zS1 e4,zS1 e5,by simp[go_sem,e7],zS1 e8,zS1 ab,zS1 a5,zSi,?_,?_,?_,m0,m1⟩⟩
    .rw [yd I,ZR J,mapX,a0];rfl
    .simp only[qK];rw[zGl];exact k0
    .simp only[qK];rw[qH zOm]
    .simp only[qK]
     rw[zh,zh];exact Own.set aa _ m1
  .have ax:k=d.ts.length:=by omega
   subst ax;rw[q8,C]at J;subst J;have ai:=Xy (g:=fun a=>(den x b).F ⟨p.st,p.env++[(n.name,a)]⟩) (ts:=d.ts) (l:=o) (by rw[hg];exact C);have a4:=UD o;rw[ai]at a4;generalize o.map Prod.snd=vs at *
   simp[go_sem,e7,e8,a5,a6,a4];refine .fn _ _ _ _ _ rfl rfl (fun k x y hx=>by simp at hx) (fun k x y hx hy=>?_)
   match k with
   | 0 =>
    simp at hx hy;subst hx;subst hy;rw[<-he];refine .ptr 0 0 _ _ g0 zSp fun k u v hu hv=>?_
    rw[yK]at hu;rw[hu]at hv;cases hv;exact .hf _ (Yh d _ (qX hu))
   | 1=>simp at hx hy;subst hx;subst hy;exact aQ g1 (Own.rdB ho)
   |k+2=>simp at hx
theorem RelM.push{mu g l}(h:RelM mu g l):RelM (mu++[.dead]) g l:=by
 obtain⟨t,p,g1,i,n0,j⟩:=h;exact⟨t,by grind,by grind,i.same fun b o=>by rw[qI (i.v.lt o)],n0,j⟩
abbrev onL(l:List (Int×Bool)):List Int:=(l.filter fun e=>e.2).map fun e=>e.1
theorem XW(l:List (Int×Bool)):ZS (l.map Prod.fst) (l.map Prod.snd)=l.map fun e=>[aI e.1,aB e.2]:=by
 rw[ZS,List.zip_map'];simp
theorem qk7(l:List (Int×Bool))(k h):onL (l.take (k+1))=onL (l.take k)++(if l[k].2=true then [l[k].1] else []):=by
 rw[yd h,onL,List.filter_append,zh]
 grind
theorem XX{ds nm p l}(h:jH ds nm p = .ok l)(B)(hB:∀ d,(kD ds 0).E p = .ok d->d.ts.length<=B):l.length<=B:=by
 obtain⟨d,i,_,g⟩:=mj h;have:=congrArg List.length g
 grind
theorem qk8(x N n a b)(hM:OkMa x N)(hk:n.sD=[a,b])(ih:IH x N n)(p)(hp:OkP x N p)(hq:bd p n) :
  qP qd 116 [eMa x,ePl p,eNd n] (endE (bX (jH [den x a,den x b] n.name p) fun l => .ok ⟨1,(l.filter fun e=>e.2).map fun e=>e.1⟩)):=by
 refine za.of_sound ?_;refine qSW call116 func116 rfl {} ?_;have I:=XV x N n a b hM hk ih p hp hq;have wx:=wk3 x p n;simp[go_sem];cases hE:jH [den x a,den x b] n.name p with
 |error e =>
  rw[hE]at I;refine aC I wx ?_;simp[go_sem,zC];exact .hf _ (qL _)
 |ok l =>
  rw[hE]at I;have hl:l.length<=8000:=XX hE 8000 fun d h=>((ih a (by rw[hk];simp) p hp zOm).G d h).len hM.n0 (cS hM)
  have J:=XT 1 (l.map Prod.fst) (l.map Prod.snd) zSp zSo;rw[XW]at J;rw[UD]at I;refine t7 I.toP wx ?_;generalize insC 1 (l.map Prod.fst) (l.map Prod.snd)=C at *
  simp[go_sem,zi];refine dK J (fun j M=>RelM M 1 (onL (l.take j))) (fun _ _=>False) ?_ ?_ ?_ ?_ ?_ ?_
  .exact ⟨.lst true [],zSi,zSi,.inl ⟨rfl,rfl⟩,by simp[qo],by simp[qo]⟩
  .grind [RelM.push]
  .grind
  .rintro j y M hj ⟨av,P,g1,o,n0,n1⟩
   rw[zw,vL]at hj;obtain⟨t,ht,rfl⟩:=hj;obtain⟨a0,a1⟩:=qj.1 ht;have g:=qk7 l j a0;rw[a1]at g;refine⟨rfl,?_⟩;cases U:t.2 with
   |true =>
    rw[if_pos U]at g;have a5:(onL (l.take j)).length<=8000:=by
     rw[onL,zX];exact zH (List.length_filter_le _ _) zSo
    simp[go_sem,g1];refine aV (e:=3) (bt:=8) (z:=0) zSi zSi zSi zOm o.v zOm ?_;intro a6 R i a2 a3 a4;obtain⟨k1,k2⟩:=RelM.step P g1 n0 n1 i a2 a3 a4;simp[go_sem,k1,i.v.one,i.v.cells]
    grind [dT]
   |false =>
    rw[if_neg (by rw[U];simp),zV]at g;simp[go_sem];refine dT ?_;rw[g];exact⟨av,P,g1,o,n0,n1⟩
  .rintro M ⟨av,P,g1,o,n0,n1⟩
   rw[zX,q8]at o;have T:∀ c,(M.set 0 c)[0]?=some c:=fun c=>qH (qj.1 P).1
   simp[go_sem,P,g1,T,o.v.one];refine aL (o.v.same fun b U=>?_);rw[z7 (fun e=>n0 (by rw[e];exact U))]
  grind
end F5
namespace F6
open Y1 Y10 P1 YF E3 EA EO EP EQ ER EW F1 F2 F3 F4 F5
section
variable {env:List (dA×Int)}
theorem backU(l):qh qd 186 [lPm l] (.fn (.func 246) [] [.ip [lPm l]]):=by
 refine qSU call186 func186 rfl ?_;exact .hf _ (HF.fn zSp (by simp;exact jf (vD _)))
def Zc(l:List (dA×Int)):List (List AV):=(qr l.length).map fun k:Nat=>[aI ((l.length-1-k:Nat):Int),.agg (cPm (l.getD (l.length-1-k) (⟨#[]⟩,0)))]
theorem qk9(l)(hl:l.length<=1000000000):jC qd 246 [.ip [lPm l]] (Zc l):=by
 refine jC.of call246 fun i I Ix hS hX hY mu h0=>?_
 refine qSW call246 func246 rfl {} ?_;have a0:(Zc l).length=l.length:=by simp[Zc]
 have w0:qm.wrap ((l.length:Int)-1)=(l.length:Int)-1:=zWr;simp[go_sem,w0];refine aP l.length (fun k U=>U.tm 0 = .yl i/\U.tm 1 = .ip [lPm l]/\U.tm 3=aI ((l.length:Int)-1-k)/\I k U.mu) ?_ ?_
 .simp [go_sem, *]
 rintro k U hk ⟨e0,e1,C,hI⟩;by_cases g:k<l.length
 .have hj:((l.length:Int)-1-k)=((l.length-1-k:Nat):Int):=by omega
  have o:l.length-1-k<l.length:=zOm;have hw:qm.wrap (((l.length-1-k:Nat):Int)-1)=(l.length:Int)-1-((k+1:Nat):Int):=by grind [yn]
  have p:(0:Int)<=((l.length-1-k:Nat):Int):=zOm;have t:(Zc l)[k]?=some [aI ((l.length-1-k:Nat):Int),.agg (cPm l[l.length-1-k])]:=by
   rw[Zc,zw,wQ g];simp[zr,qw o]
  rw[hj]at C;generalize l.length-1-k=j at *
  simp[go_sem,e0,e1,C,p,o];refine qg.yield (hY _ _ _ t hI) ?_;rintro b R (⟨rfl,J⟩|⟨rfl,P⟩)
  .simp [go_sem,C,hw]
   exact⟨g,aM ⟨zS1 e0,zS1 e1,zSi,zVs J⟩⟩
  .simp [go_sem]
   exact .inr P
 .have T:k=l.length:=by omega
  subst T;rw[show (l.length:Int)-1-l.length = -1 by omega]at C;simp[go_sem, *]
theorem XY(nm):∀(l:List (dA×Int))(r),(∀ e,e∈l->e.1≠nm)->l.foldl (fun r e=>if e.1=nm then some e.2 else r) r=r
 | [],r,_=>rfl
 |e :: l,r,h=>by rw[List.foldl_cons,if_neg (h e zSp)];exact XY nm l r fun x g=>h x (zP1 g)
theorem qlA{nm}(h:∀ e,e∈env->e.1≠nm):un nm env=none:=XY nm env none h
theorem qlB{nm j}(g)(i:env[j].1=nm)(h:∀ e,e∈env.drop (j+1)->e.1≠nm):un nm env=some env[j].2:=by
 have e:env=env.take j++env[j] :: env.drop (j+1):=by rw[<-ze g,uA]
 unfold un
 conv=>lhs;rw[e]
 rw[uz,List.foldl_cons,if_pos i];exact XY nm _ _ h
theorem qlC(fs:List Fld)(g:List Rl)(nm k h)(i:k<g.length):jG (fs.take (k+1)) (g.take (k+1)) nm=jG (fs.take k) (g.take k) nm++(if fs[k].name=nm then [g[k]] else []):=by
 unfold jG;rw[yd h,yd i,List.zip_append zSo,List.filterMap_append];congr 1;by_cases e:fs[k].name=nm<;>simp[e]
theorem mS(fs g nm):(jG fs g nm).length<=fs.length:=by
 grind [jG,zH,List.length_filterMap_le,List.length_zip]
def Zd(x:Mo)(nm:dA)(i:Nat)(s:dA×Bool):List Rl:=(if s.1=nm then [⟨1,zu x i⟩] else [])++((if s.2=true/\s.1++yM=nm then [⟨1,(zu x i).take 1⟩] else [])++(if s.2=true/\s.1++jl=nm then [⟨2,Qd x i⟩] else []))
theorem mT(x nm):∀ a b i,yH x nm i (a++b)=yH x nm i a++yH x nm (i+a.length) b
 | [],b,i=>rfl
 |s :: a,b,i=>by
  rw[yD,yH,yH,mT x nm a b (i+1),yp,show i+1+a.length=i+(a.length+1) by omega];simp only[zE]
theorem mU(x nm)(so:List (dA×Bool))(k h):yH x nm 0 (so.take (k+1))=yH x nm 0 (so.take k)++Zd x nm k so[k]:=by
 rw[yd h,mT,vO,Nat.min_eq_left zOm,yK,yH];simp[Zd,yH]
theorem qlD(x nm i s):(Zd x nm i s).length<=3:=by
 grind [Zd,zf]
theorem mV(x nm)(so:List (dA×Bool)):∀ k,k<=so.length->(yH x nm 0 (so.take k)).length<=3*k
 | 0,_=>by simp[yH]
 |k+1,h=>by
  rw[mU x nm so k zOm,zf];have:=mV x nm so k zOm;have:=qlD x nm k so[k];omega
theorem mW(sc)(i:Nat):tupR sc [(i:Int)] 0=(qr (gI sc.sC i).toNat).map fun k:Nat=>sumI (sc.sC.take i)+k:=by
 rw[tupR];simp only[tupR,Int.zero_mul,Int.zero_add,show (i:Int).toNat=i by omega];exact List.map_eq_flatMap.symm
theorem cM{Q i d L x st}(g:Rd (cutM (fun j=>decide (L<=j)) st.mu 0) (st.tm d) x)(k:Q (.exit i) (st.put (some d) x (cutM (fun j=>!decide (L<=j)) st.mu 0))):FzQ Q (.exit i) st:=by
 refine⟨_,⟨fun j=>decide (L<=j),rfl,fun j=>?_⟩,trivial,k⟩;simp only[St.put];split
 .rename_i h;subst h;exact .rd _ _ g
 .exact .same _
def bR:Nat->Int
 | 0=>0
 |k+1=>bR k*20+20
theorem bR_ok:∀ k,k<=3->bR k<=100000
 | 0,_=>zDe
 | 1,_=>zDe
 | 2,_=>zDe
 | 3,_=>zDe
def vH(n:Int)(tuple:List Int):Int:=tuple.foldl (fun o t=>o*n+t) 0
theorem qlE(n)(tuple:List Int)(k h):vH n (tuple.take (k+1))=vH n (tuple.take k)*n+tuple[k]:=by
 rw[List.take_add_one,qw h,vH,vH,uz];rfl
theorem mX(sc)(g:GSc sc)(tuple)(ht:tuple.length<=3)(hd:∀ d,d∈tuple->0<=d/\d<sumI sc.sC):qh qd 188 [eSc sc,lI tuple] (aI (vH (sumI sc.sC) tuple)):=by
 refine qSV call188 func188 rfl ?_;simp[go_sem,show ¬(3:Int)<tuple.length by omega];refine t7 (Yt sc g) (.zk (zF sc) .nil) ?_;have o:=g.sum sc.sC.length;rw[q8]at o;generalize sumI sc.sC=n at *
 simp[go_sem];refine ql.up tuple.length (fun k U=>U.tm 5=aI n/\U.tm 14=lI tuple/\U.tm 15=aI tuple.length/\U.tm 6=aI (vH n (tuple.take k))/\U.tm 16=aI k/\U.mu=[]/\0<=vH n (tuple.take k)/\vH n (tuple.take k)<=bR k) ?_ ?_
 .simp [go_sem,vH,bR]
 rintro k U hk ⟨P,p,j,R,l,T,t,C⟩;by_cases i:k<tuple.length
 .have I:=hd _ (qv i)
  have hs:=qlE n tuple k i;have hb:=bR_ok k zOm;have a0:bR (k+1)=bR k*20+20:=rfl;generalize a1:vH n (tuple.take k)=r at *
  have m0:0<=r*n:=Int.mul_nonneg t zOm;have m1:r*n<=bR k*20:=jq C zOm zOm zOm;have hw:qm.wrap (n-1)=n-1:=zWr;simp[go_sem,P,p,j,l,T,i,hw];refine t7 (Uz tuple[k] 0 (n-1)) (.zs (.zs (.zs .nil))) ?_;simp[go_sem,P,p,j,R,l,i,I.1,show tuple[k]<=n-1 by omega];rw[hs,yn (n:=r*n) zOm zOm,yn (n:=r*n+tuple[k]) zOm zOm,yn (n:=(k:Int)+1) zOm zOm];omega
 .have J:k=tuple.length:=by omega
  subst J;simp[go_sem,j,R,l,T];exact .zsc _
theorem BrS.join{P pl b st A B K Q}(J)(j:b=true->awp P pl A (seqQ (fun st=>Keep J .mk st) Q) st)(l:b=false->awp P pl B (seqQ (fun st=>Keep J .mk st) Q) st)(o:∀ st,J st->K st) :
  BrS b (awp P pl A (seqQ K Q)) (awp P pl B (seqQ K Q)) st:=by
 refine tQ (fun h=>awp.mono A (j h) fun e st g=>?_) (fun h=>awp.mono B (l h) fun e st g=>?_)
 all_goals cases e with
  |normal=>exact o st g
  |exit i=>exact g
  |ret=>exact g
  |pan v=>exact g
theorem cD{b p q st}(J:St->Prop)(h:J st)(k:∀ st,J st->BrS b p q st):BrS b p q st:=k st h
def FndM(mu:Mu)(s:AV)(F:List Rl):Prop:=mu[0]?=some (.arr [aI 0,.lst true []])/\Own mu 2 s (F.map cRel)/\qo s≠some 0
theorem cG{full}(l):WK (.lst full (l.map rI)) (lI l):=WK.lst fun r g c i=>by
 obtain⟨n,_,rfl⟩:=qn.1 g
 grind [HF.sc]
structure SInv (x:Mo) (nm sn:dA) (sb:Bool) (k c d:Nat) (F:List Rl) (st:St):Prop where
 e0:st.tm 0=eMa x
 e5:st.tm 5 = .ip [aS nm]
 e6:st.tm 6 = .ptr 0 0
 e13:st.tm 13 = .ptr c 0
 e14:st.tm 14 = .ptr d 0
 e65:st.tm 65=lSo x.ts.sS
 e66:st.tm 66=aI x.ts.sS.length
 e67:st.tm 67=aI k
 g0:st.mu[0]?=some (.arr [aI 0,.lst true []])
 gc:st.mu[c]?=some (.arr [aS sn,aB sb])
 gd:st.mu[d]?=some (.arr [aI 1,lI (zu x k)])
 ho:Own st.mu 2 (st.tm 9) (F.map cRel)
 n0:qo (st.tm 9)≠some 0
 nc:qo (st.tm 9)≠some c
 nd:qo (st.tm 9)≠some d
structure SNew (c d:Nat) (F:List Rl) (av:AV) (mu:Mu):Prop where
 g0:mu[0]?=some (.arr [aI 0,.lst true []])
 ho:Own mu 2 av (F.map cRel)
 n0:qo av≠some 0
 nc:qo av≠some c
 nd:qo av≠some d
theorem SInv.app{t l}(J:qD qd t=some (42,2,32))(g:(qD qd l).isSome=true){x nm o C k c d F st}(h:SInv x nm o C k c d F st)(hl:F.length<=100)(r){I}(P:qy st.mu I=some [cRel r]){K}
  (R:∀ av mu',SNew c d (F++[r]) av mu'->mu'[c]?=some (.arr [aS o,aB C])->mu'[d]?=some (.arr [aI 1,lI (zu x k)])->K av mu'):qu qd st.mu #[t,l] (st.tm 9) I K:=by
 have T:=(qj.1 h.gc).1;have U:=(qj.1 h.gd).1;have l0:=(qj.1 h.g0).1;refine qu.ownB (e:=42) (sz:=2) (bt:=32) (zv := .agg [aI 0,.lst true []]) (xs:=F.map cRel) (ys:=[cRel r]) J g zSi rfl rfl zOm zOm h.ho P (jD _) (jD [r]) zSo ?_;intro i mu' a0 g a1 a2;refine R i mu' ⟨by rw[g 0 l0 h.n0];exact h.g0,by grind,fun e=>by grind,fun e=>by grind,fun e=>by grind⟩ (by rw[g c T h.nc];exact h.gc) (by rw[g d U h.nd];exact h.gd)
theorem appR{t l}(C:qD qd t=some (42,2,32))(g:(qD qd l).isSome=true){mu s F}(h:FndM mu s F)(hl:F.length<=100)(r){o}(I:qy mu o=some [cRel r]){K}
  (J:∀ av mu',FndM mu' av (F++[r])->K av mu'):qu qd mu #[t,l] s o K:=by
 have P:=(qj.1 h.1).1;refine qu.ownB (e:=42) (sz:=2) (bt:=32) (zv := .agg [aI 0,.lst true []]) (xs:=F.map cRel) (ys:=[cRel r]) C g zSi rfl rfl zOm zOm h.2.1 I (jD _) (jD [r]) zSo ?_;intro i mu' R g T U;exact J i mu' ⟨by rw[g 0 P h.2.2];exact h.1,by grind,fun e=>by grind⟩
theorem qlF(x N)(hM:OkMa x N)(nm p)(hp:OkP x N p)(hq:p.env.length<=1000000) :
  qP qd 117 [eMa x,ePl p,aS nm] (endE (Zb x p nm)):=by
 refine za.of_sound ?_;refine qSW call117 func117 rfl {} ?_;have dr:=zS x;generalize hE:Zb x p nm=E;unfold Zb at hE;simp[go_sem];refine fW (backU p.env) (.zk (vD _) .nil) ?_;refine dK (qk9 p.env zOm) (fun k M=>(∃ g,M = .arr [aI 0,.lst true []] :: g)/\∀ e,e∈p.env.drop (p.env.length-k)->e.1≠nm) (fun e M=>e = .ret/\∃ a g,un nm p.env=some a/\M = .arr [aI 1,.lst true [[aI a]]] :: g) ?_ ?_ ?_ ?_ ?_ ?_
 .simp_all [qK,yD]
 .simp
 .grind
 .rintro k y M hk ⟨⟨g,rfl⟩,h⟩
  have bq:k<p.env.length:=by
   grind [qj,Zc]
  have a7:p.env.length-1-k<p.env.length:=zOm;rw[Zc,zw,wQ bq]at hk;simp only[zg,qp,zr,qw a7,Option.getD_some]at hk;subst hk;have br:p.env.length-k=p.env.length-1-k+1:=zOm;rw[br]at h;have b6:=fun he=>qlB a7 he h
  have o:p.env.drop (p.env.length-(k+1))=p.env[p.env.length-1-k] :: p.env.drop (p.env.length-1-k+1):=by
   grind [ze]
  generalize hb:p.env[p.env.length-1-k]=b at *
  refine⟨rfl,?_⟩;by_cases he:b.1=nm
  .simp [go_sem,he]
   exact dT ⟨rfl,b.2,_,b6 he,rfl⟩
  .simp [go_sem,y5,he]
   refine dT ⟨⟨_,rfl⟩,fun e hm=>?_⟩;rw[o]at hm;rcases qx.1 hm with rfl|hm
   .exact he
   grind
 .rintro M ⟨⟨g,rfl⟩,h⟩
  have bs:un nm p.env=none:=qlA fun e hm=>h e (by simpa[Zc] using hm)
  rw[bs]at hE;simp only at hE;obtain⟨bu,bv⟩:=hM.st p.st hp.st;have an:p.st<x.m.sK.length:=zW2 hM.len hp.st;have bw:x.m.sK.getD p.st []=x.m.sK[p.st]:=by rw[zr,qw an];rfl
  have ds:=hM.ts.nf;have dt:=hM.ts.ns;have b7:=mS x.ts.sA (x.m.sK.getD p.st []) nm;rw[bw]at hE bu bv b7;generalize ca:x.m.sK[p.st]=rs at *
  simp[go_sem];refine aP x.ts.sA.length (fun k U=>U.tm 0=eMa x/\U.tm 4 = .ip (cPl p)/\U.tm 5 = .ip [aS nm]/\U.tm 6 = .ptr 0 0/\U.tm 34=lFl x.ts.sA/\U.tm 35=aI x.ts.sA.length/\U.tm 36=aI k/\FndM U.mu (U.tm 9) (jG (x.ts.sA.take k) (rs.take k) nm)) ?_ ?_
  .exact ⟨zSi,zSi,zSi,zSi,zSi,zSi,zSi,zSi,.inl (by simp[go_sem,jG]),by simp[go_sem,qo]⟩
  rintro k U hk ⟨e0,e4,e5,e6,ae,a8,af,g0,ho,hn⟩;by_cases I:k<x.ts.sA.length
  .have a9:k<rs.length:=by omega
   have w1:=zWk k;have hs:=qlC x.ts.sA rs nm k I a9;have du:(jG (x.ts.sA.take k) (rs.take k) nm).length<=6:=zH (mS _ _ _) zSo;have l0:0<U.mu.length:=(qj.1 g0).1;by_cases he:x.ts.sA[k].name=nm
   .rw [if_pos he]at hs
    simp[go_sem,e5,ae,a8,af,I,he];refine tV zKr ?_;simp[go_sem,e0,e4,an,ca,a9];refine qu.ownB (e:=42) (sz:=2) (bt:=32) (zv := .agg [aI 0,.lst true []]) (xs:=(jG (x.ts.sA.take k) (rs.take k) nm).map cRel) (ys:=[cRel rs[k]]) zSi zSi zSi rfl rfl zOm zOm (Own.push ho _) (by simp[qy]) (jD _) (jD [rs[k]]) zSo ?_;intro ag R aa aw b8 cb;have k0:R[0]?=some (.arr [aI 0,.lst true []]):=by
     grind
    have m0:qo ag≠some 0:=fun e=>by grind
    simp[go_sem,af,I,w1];refine aM ⟨zS1 e0,zS1 e4,zS1 e5,zS1 e6,zS1 ae,zS1 a8,zSi,zVs k0,?_,zVs m0⟩;simp[go_sem, *]
   .rw [if_neg he,zV]at hs
    simp[go_sem,y5,e5,ae,a8,af,I,he,w1];refine aM ⟨zS1 e0,zS1 e4,zS1 e5,zS1 e6,zS1 ae,zS1 a8,zSi,?_,?_,zVs hn⟩
    .grind [qK,qI]
    simp_all[go_sem,Own.push]
  .have ah:k=x.ts.sA.length:=by omega
   rw[zJ zOm,zJ zOm]at ho;generalize jG x.ts.sA rs nm=F at *
   simp[go_sem,e0,a8,af,ah];refine fR x.ts.sS.length (fun k=>Keep (fun U=>U.tm 0=eMa x/\U.tm 5 = .ip [aS nm]/\U.tm 6 = .ptr 0 0/\U.tm 65=lSo x.ts.sS/\U.tm 66=aI x.ts.sS.length/\U.tm 67=aI k/\FndM U.mu (U.tm 9) (F++yH x nm 0 (x.ts.sS.take k))) .mk) ?_ ?_
   .exact aM ⟨zS1 e0,zS1 e5,zS1 e6,zSi,zSi,zSi,zVs g0,by simpa[go_sem,yH] using ho,zVs hn⟩
   rintro k U hk ⟨e0,e5,e6,b9,ax,ay,g0,ho,hn⟩;have dv:=mV x nm x.ts.sS k hk;by_cases I:k<x.ts.sS.length
   .have w1:=zWk k
    have hs:=mU x nm x.ts.sS k I;have bb:=hM.ts.sl _ (qv I);have bc:k<x.m.sc.sC.length:=zW1 hM.al;have a4:=XN x.m.sc hM.gsc hM.pos [(k:Int)] (fun s hs=>by rw[qQ]at hs;omega) zSp zSp;rw[mW]at a4;have cc:zu x k=(qr (gI x.m.sc.sC k).toNat).map fun j:Nat=>sumI (x.m.sc.sC.take k)+j:=rfl
    rw[<-cc]at a4;have cd:WKs [eSc x.m.sc,.lst true [rI k]] [eSc x.m.sc,lI [(k:Int)]] := .zk (zF _) (.cons (cG [(k:Int)]) .nil);generalize cf:x.ts.sS[k]=so at *
    obtain⟨T,sb⟩:=so;have cg:T.size<=9223372036854775801:=by simp at bb;omega
    have ch:T.size<=9223372036854775802:=by simp at bb;omega
    generalize hF:F++yH x nm 0 (x.ts.sS.take k)=F0 at *
    have ao:F++yH x nm 0 (x.ts.sS.take (k+1))=F0++Zd x nm k (T,sb):=by rw[hs,<-hF,zE]
    have dw:F0.length<=18:=by rw[<-hF,zf];omega
    have l0:0<U.mu.length:=(qj.1 g0).1;simp[go_sem,e0,b9,ax,ay,I,cf];refine t7 a4 cd ?_;simp[go_sem,y5,e5];generalize hL:U.mu.length=L at *
    have aq:∀ b,qo (U.tm 9)=some b->b<L:=fun b hb=>zW1 (Own.lt ho hb)
    have az:∀ c,Own (U.mu++c) 2 (U.tm 9) (F0.map cRel):=fun c=>Own.push ho c
    have ai:U.mu[0]'(qj.1 g0).1 = .arr [aI 0,.lst true []]:=(qj.1 g0).2;have dx:∀ c:List Cell,(U.mu++c)[0]?=some (.arr [aI 0,.lst true []]):=fun c=>by rw[zGa];exact g0
    have cj:∀ A B:Cell,(U.mu++[A,B])[L]?=some A:=fun A B=>by rw[zN zOm,hL];simp
    have ck:∀ A B:Cell,(U.mu++[A,B])[L+1]?=some B:=fun A B=>by rw[zN zOm,hL];simp
    refine cD (SInv x nm T sb k L (L+1) F0) ⟨zS1 e0,zS1 e5,zS1 e6,zSi,zSi,zS1 b9,zS1 ax,zS1 ay,by simp[go_sem,List.getElem_append_left,hL,l0,ai],zS1 cj,zS1 ck,by simp[go_sem,az],zS1 hn,fun e=>?_,fun e=>?_⟩ fun st0 h0=>?_
    .have:=aq L (zVs e);omega
    .have:=aq (L+1) (zVs e);omega
    refine BrS.join (SInv x nm T sb k L (L+1) (F0++if T=nm then [⟨1,zu x k⟩] else [])) ?_ ?_ ?_
    .intro o
     have o:=of_decide_eq_true o;rw[if_pos o];simp[go_sem,h0.e14,h0.gd];refine h0.app zSi zSi zOm ⟨1,zu x k⟩ (by simp[qy]) fun t R J b0 b1=>?_
     simp[go_sem];refine aM ?_;exact⟨by simp[go_sem,h0.e0],by simp[go_sem,h0.e5],by simp[go_sem,h0.e6],by simp[go_sem,h0.e13],by simp[go_sem,h0.e14],by simp[go_sem,h0.e65],by simp[go_sem,h0.e66],by simp[go_sem,h0.e67],J.g0,b0,b1,J.ho,J.n0,J.nc,J.nd⟩
    .intro o
     have o:=of_decide_eq_false o;rw[if_neg o,zV];simp[go_sem];exact aM h0
    intro st1 C;have dy:(F0++if T=nm then [(⟨1,zu x k⟩:Rl)] else []).length<=19:=by rw[zf];split<;>simp only[yp,List.length_nil]<;>omega
    cases sb with
    |false =>
     have cl:F0++Zd x nm k (T,false)=F0++if T=nm then [⟨1,zu x k⟩] else []:=by simp[Zd]
     rw[<-cl,<-ao]at C;simp[go_sem,C.e13,C.e67,C.gc,w1,I];exact aM ⟨by simp[go_sem,C.e0],by simp[go_sem,C.e5],by simp[go_sem,C.e6],by simp[go_sem,C.e65],by simp[go_sem,C.e66],zSi,by simpa[go_sem] using C.g0,by simpa[go_sem] using C.ho,by simpa[go_sem] using C.n0⟩
    |true =>
    generalize be:(F0++if T=nm then [⟨1,zu x k⟩] else [])=F1 at *
    have dq:(zu x k).length<=100:=by
     obtain⟨u0,u1⟩:=hM.gsc.sum (k+1);obtain⟨v0,v1⟩:=hM.gsc.sum k;rw[wm _ _ bc]at u1;unfold zu;rw[zX,List.length_range,ju bc];omega
    simp[go_sem,y5,C.e5,C.e13,C.gc,cg];refine cD (SInv x nm T true k L (L+1) F1) ⟨by simp[go_sem,C.e0],by simp[go_sem,C.e5],by simp[go_sem,C.e6],by simp[go_sem,C.e13],by simp[go_sem,C.e14],by simp[go_sem,C.e65],by simp[go_sem,C.e66],by simp[go_sem,C.e67],C.g0,C.gc,C.gd,C.ho,C.n0,C.nc,C.nd⟩ fun st2 h2=>?_
    refine BrS.join (SInv x nm T true k L (L+1) (F1++if T++yM=nm then [⟨1,(zu x k).take 1⟩] else [])) ?_ ?_ ?_
    .intro o
     have o:=of_decide_eq_true o;have o:T++yM=nm:=by rw[o];rfl
     rw[if_pos o];obtain⟨m,cm,cn,cp⟩:∃ m:Nat,(if ((zu x k).length:Int)<1 then ((zu x k).length:Int) else 1)=m/\m<=(zu x k).length/\(zu x k).take m=(zu x k).take 1:=by
      by_cases hz:(zu x k).length=0
      .exact ⟨0,by rw[if_pos zOm,hz],zOm,by rw[List.length_eq_zero_iff.1 hz];rfl⟩
      .exact ⟨1,zIn,zOm,rfl⟩
     have cq:WKs [.lst false (((zu x k).map rI).take m)] [lI ((zu x k).take 1)] := .cons (by rw[<-List.map_take,cp];exact .hf (zx _)) .nil;simp[go_sem,h2.e14,h2.gd,cm,cn];refine⟨⟨_,_,⟨rfl,rfl⟩,(yY _).ok⟩,?_⟩;refine t7 (clipI ((zu x k).take 1)) cq ?_;generalize (zu x k).take 1=T1 at *
     simp[go_sem];refine h2.app zSi zSi zOm ⟨1,T1⟩ (by simp[qy]) fun t R J b0 b1=>?_
     simp[go_sem];refine aM ?_;exact⟨by simp[go_sem,h2.e0],by simp[go_sem,h2.e5],by simp[go_sem,h2.e6],by simp[go_sem,h2.e13],by simp[go_sem,h2.e14],by simp[go_sem,h2.e65],by simp[go_sem,h2.e66],by simp[go_sem,h2.e67],J.g0,b0,b1,J.ho,J.n0,J.nc,J.nd⟩
    .intro o
     have o:=of_decide_eq_false o;have o:¬T++yM=nm:=fun e=>o (by rw[<-e];rfl)
     rw[if_neg o,zV];simp[go_sem];exact aM h2
    intro st3 h3;have dz:(F1++if T++yM=nm then [(⟨1,(zu x k).take 1⟩:Rl)] else []).length<=20:=by rw[zf];split<;>simp only[yp,List.length_nil]<;>omega
    have a3:F++yH x nm 0 (x.ts.sS.take (k+1))=(F1++if T++yM=nm then [⟨1,(zu x k).take 1⟩] else [])++(if T++jl=nm then [⟨2,Qd x k⟩] else []):=by
     rw[ao,<-be];simp[Zd]
    generalize (F1++if T++yM=nm then [⟨1,(zu x k).take 1⟩] else [])=F2 at *
    simp[go_sem,y5,h3.e5,h3.e13,h3.gc,ch];refine cD (SInv x nm T true k L (L+1) F2) ⟨by simp[go_sem,h3.e0],by simp[go_sem,h3.e5],by simp[go_sem,h3.e6],by simp[go_sem,h3.e13],by simp[go_sem,h3.e14],by simp[go_sem,h3.e65],by simp[go_sem,h3.e66],by simp[go_sem,h3.e67],h3.g0,h3.gc,h3.gd,h3.ho,h3.n0,h3.nc,h3.nd⟩ fun a5 P=>?_
    refine tQ ?_ ?_
    .intro o
     have o:=of_decide_eq_true o;have o:T++jl=nm:=by rw[o];rfl
     rw[if_pos o]at a3;have gl:=(qj.1 P.gd).1;have hA:∀(z:List Cell)(i:Nat),i<a5.mu.length->(a5.mu++z)[i]?=a5.mu[i]?:=fun z i hi=>qI hi
     obtain⟨A,a6⟩:∃ A,A=a5.mu:=⟨_,rfl⟩;rw[<-a6]at hA gl;have b2:∀ z:List Cell,(A++z)[L+1]?=some (.arr [aI 1,lI (zu x k)]):=fun z=>by rw[hA z _ gl,a6];exact P.gd
     have cr:∀(c:Cell)(z:List Cell),(A++c :: z)[A.length]?=some c:=fun c z=>by rw[zN (qk _)];simp
     have cs:∀(c d:Cell)(z:List Cell),(A++c :: z).set A.length d=A++d :: z:=fun c d z=>by rw[List.set_append_right _ _ (qk _)];simp
     have ct:∀ b,qo (a5.tm 9)=some b->b<A.length:=fun b hb=>by rw[a6];exact Own.lt P.ho hb
     have bg:∀ j,j<(zu x k).length-1->∃ u v:Int,(zu x k)[j]?=some u/\(zu x k)[j+1]?=some v/\(0<=u/\u<x.n)/\(0<=v/\v<x.n)/\(Qd x k)[j]?=some (u*x.n+v):=by
      intro j hj;obtain⟨a0,a1,a2⟩:=hM.at0 k I;have e1:(zu x k).length=(gI x.m.sc.sC k).toNat:=by simp[zu]
      refine⟨sumI (x.m.sc.sC.take k)+j,sumI (x.m.sc.sC.take k)+((j+1:Nat):Int),?_,?_,⟨zOm,zOm⟩,⟨zOm,zOm⟩,?_⟩
      .rw [zu,zw,wQ zOm];rfl
      .rw [zu,zw,wQ zOm];rfl
      .rw [Qd,zw,wQ zOm]
       simp only[zg,qp];congr 1;omega
     have e2:(Qd x k).length=(zu x k).length-1:=by simp[Qd,zu]
     generalize e3:zu x k=al at *
     generalize e8:Qd x k=nx at *
     simp[go_sem,<-a6];refine fR (al.length-1) (fun j=>Keep (fun U=>∃ t g,U.mu=A++(.arr [aI 2,t] :: g)/\OwnI U.mu t (nx.take j)/\(∀ b,qo t=some b->A.length<b)/\U.tm 0=eMa x/\U.tm 5 = .ip [aS nm]/\U.tm 6 = .ptr 0 0/\U.tm 9=a5.tm 9/\U.tm 14 = .ptr (L+1) 0/\U.tm 15 = .ptr A.length 0/\U.tm 16=aI ((j:Int)+1)/\U.tm 65=lSo x.ts.sS/\U.tm 66=aI x.ts.sS.length/\U.tm 67=aI k) .mk) ?_ ?_
     .exact aM ⟨.lst true [],[],zSi,.inl ⟨rfl,zSp⟩,by simp[qo],by simp[go_sem,P.e0],by simp[go_sem,P.e5],by simp[go_sem,P.e6],zSi,by simp[go_sem,P.e14],zSi,zSi,by simp[go_sem,P.e65],by simp[go_sem,P.e66],by simp[go_sem,P.e67]⟩
     rintro j e9 hj ⟨t,g,aj,ab,b3,i0,i5,i6,i9,ak,b4,i16,bh,bi,bj⟩;by_cases a7:j<al.length-1
     .have hc:(j:Int)+1<al.length:=by omega
      obtain⟨u,v,hu,hv,cu,cv,cw⟩:=bg j a7;obtain⟨cx,cy⟩:=qj.1 hu;obtain⟨cz,da⟩:=qj.1 hv;obtain⟨db,dc⟩:=qj.1 cw;have wj:qm.wrap (j:Int)=j:=zWr;have dd:qm.wrap ((j:Int)+1+1)=(j:Int)+1+1:=zWr;have a9:=mX x.m.sc hM.gsc [u,v] zSp (fun d o=>by
       rcases qx.1 o with rfl|o
       .exact cu
       .rw [qQ]at o;subst o;exact cv)
      have de:vH (sumI x.m.sc.sC) [u,v]=u*x.n+v:=by simp[vH,Mo.n]
      rw[de]at a9;have df:WKs [eSc x.m.sc,.lst true [[aI u],[aI v]]] [eSc x.m.sc,lI [u,v]] := .zk (zF _) (.cons (cG [u,v]) .nil);simp[go_sem,ak,i16,aj,b2,hc];refine fG [0,1,2,3,4,5,6,7,8,9,10,11,12,13,14,15,16,17,18,22,19,20,21,23] [(0,0,[]),(1,0,[]),(2,0,[]),(3,0,[]),(4,0,[]),(5,0,[]),(6,0,[]),(7,0,[]),(8,0,[]),(9,0,[]),(10,0,[]),(11,0,[]),(12,0,[]),(13,0,[]),(14,0,[]),(15,0,[]),(16,0,[]),(17,0,[]),(18,0,[]),(22,0,[]),(19,1,[1]),(20,0,[]),(21,1,[]),(23,1,[])] zKr zKr zSi ?_;simp[go_sem,i0,ak,b4,i16,b2,hc,wj,cx,cy,cz,da,show (0:Int)<=(j:Int)+1 by omega];refine fW a9 df ?_;rw[aj]at ab;refine aV (e:=3) (bt:=8) (z:=0) (l:=nx.take j) zSi zSi zSi zOm ab.v zSo ?_;intro ag R aa aw cb b8;have bk:A.length<(A++(.arr [aI 2,t] :: g)).length:=zSp;have dh:R=A++(.arr [aI 2,t] :: R.drop (A.length+1)):=by
       apply j7;intro i;by_cases hi:i<A.length
       .rw [qI hi,aw i zOm (fun e=>zW1 (b3 i e)),qI hi]
       .rw [zN zOm]
        by_cases di:i=A.length
        .subst di
         rw[aw _ bk (fun e=>zW1 (b3 _ e)),zN (qk _)];simp
        .obtain ⟨q,hq⟩:∃ q,i-A.length=q+1:=⟨i-A.length-1,zOm⟩
         rw[hq,vK,List.getElem?_drop];congr 1;omega
      have ar:∀ b,qo ag=some b->A.length<b:=fun b hb=>zW1 (b8 b hb)
      rw[dh]at aa ⊢;generalize R.drop (A.length+1)=b5 at *
      simp[go_sem,i16,cs,aa.v.one,aa.v.cells,dd];refine⟨a7,aM ⟨ag,b5,zSi,?_,ar,zS1 i0,zS1 i5,zS1 i6,zS1 i9,zS1 ak,zS1 b4,zSi,zS1 bh,zS1 bi,zS1 bj⟩⟩;simp only[qK];rw[yd db,dc];refine aa.same fun b hb=>?_
      have:=ar b hb;rw[zN zOm,zN zOm];obtain⟨q,hq⟩:∃ q,b-A.length=q+1:=⟨b-A.length-1,zOm⟩;rw[hq,vK,vK]
     .have ah:j=al.length-1:=by omega
      have hc:¬(j:Int)+1<al.length:=zOm;rw[zJ zOm]at ab;simp[go_sem,ak,i16,aj,b2,hc];have dj:(A++(.arr [aI 2,t] :: g))[A.length]?=some (.arr [aI 2,t]):=cr _ _;rw[aj]at ab;generalize dk:A++(.arr [aI 2,t] :: g)=MM at *
      have ad:∀ i,A.length<=i->(cutM (fun j=>decide (A.length<=j)) MM 0)[i]?=MM[i]?:=fun i hi=>by
       rw[jy,yK];cases MM[i]?<;>simp[hi]
      have au:∀ i,i<A.length->(cutM (fun j=>!decide (A.length<=j)) MM 0)[i]?=A[i]?:=fun i hi=>by
       rw[jy,yK,<-dk,qI hi];cases A[i]?<;>simp<;>omega
      have dm:0<A.length:=zOm;have bl:FndM (cutM (fun j=>!decide (A.length<=j)) MM 0) (a5.tm 9) F2:=by
       refine⟨by rw[au 0 dm,a6];exact P.g0,?_,P.n0⟩;rcases P.ho with h|⟨b,h,dn⟩
       .exact .inl h
       .refine .inr ⟨b,h,?_⟩
        rw[au b (ct b (by rw[h];rfl)),a6];exact dn
      refine cM (d:=15) (L:=A.length) (x := .ip (cRel ⟨2,nx⟩)) ?_ ?_
      .simp only[qK,gS,b4]
       refine .ptr A.length 0 [aI 2,t] _ (by rw[ad _ (qk _)];exact dj) zSp fun k u v hu hv=>?_
       match k with
       | 0=>simp at hu hv;subst hu;subst hv;exact .zsc _
       | 1 =>
        simp at hu hv;subst hu;subst hv;exact(ab.v.same fun b hb=>ad b (zW1 (b3 b hb))).rd
       |k+2=>simp at hv
      .simp [go_sem,i9]
       refine appR (F:=F2) zSi zSi bl zOm ⟨2,nx⟩ (by simp[qy]) fun ea eb bm=>?_
       rw[<-a3]at bm;obtain⟨z0,z1,z2⟩:=bm;simp[go_sem,bj,w1,I];exact aM ⟨zS1 i0,zS1 i5,zS1 i6,zS1 bh,zS1 bi,zSi,z0,z1,z2⟩
    .intro o
     have o:=of_decide_eq_false o;have o:¬T++jl=nm:=fun e=>o (by rw[<-e];rfl)
     rw[if_neg o,zV]at a3;rw[<-a3]at P;simp[go_sem,P.e67,w1,I];exact aM ⟨by simp[go_sem,P.e0],by simp[go_sem,P.e5],by simp[go_sem,P.e6],by simp[go_sem,P.e65],by simp[go_sem,P.e66],zSi,by simpa[go_sem] using P.g0,by simpa[go_sem] using P.ho,by simpa[go_sem] using P.n0⟩
   .have ah:k=x.ts.sS.length:=by omega
    subst ah;rw[q8]at ho;generalize F++yH x nm 0 x.ts.sS=F0 at *
    simp[go_sem,ax,ay];refine FzQ.ownB (d:=9) (sz:=2) (av:=U.tm 9) (xs:=F0.map cRel) zSi ho (jD _) (fun r hr c hc=>by obtain⟨q,_,rfl⟩:=qn.1 hr;exact Yh q c hc) fun R full hl hs=>?_
    have ai:R[0]?=some (.arr [aI 0,.lst true []]):=(hs 0 hn).trans g0;have bn:∀ c,(R.set 0 c)[0]?=some c:=fun c=>qH (qj.1 ai).1
    match F0,hE with
    | [],hE =>
     simp only[JY]at hE;subst hE;simp[go_sem];refine aC (wE 40) (wkI 40) ?_;simp[go_sem];exact .hf _ (qL _)
    | [r],hE =>
     simp only[JY]at hE;subst hE;simp[go_sem,e6,ai,bn];exact .hf _ (qs r)
    |r :: s :: F1,hE =>
     have dp:¬(F1.length:Int)+1+1=0:=zOm;have bo:¬(F1.length:Int)+1+1=1:=zOm;simp only[JY]at hE;subst hE;simp[go_sem,dp,bo];refine aC (wE 44) (wkI 44) ?_;simp[go_sem];exact .hf _ (qL _)
 .rintro e M ⟨rfl,a,g,h2,rfl⟩
  rw[h2]at hE;simp only at hE;subst hE;simp[go_sem];refine .agg _ _ rfl fun k u v hu hv=>?_
  match k with
  | 0=>simp at hu hv;subst hu;subst hv;exact .zsc _
  | 1=>simp at hu hv;subst hu;subst hv;exact .wk _ true _ (.hf _ (HF.lst fun r hr c hc=>by simp at hr;subst hr;simp at hc;subst hc;exact HF.sc _))
  |k+2=>simp at hu
end
end F6
namespace F7
open Y1 P2 E1 E3 EA EO EP EQ ET F1 F2 F3 F4 F5 F6
theorem yo(a b v es i):zm qd 3 (.sc (.int .i64 a)) ((.sc (.int .i64 b),v) :: es) i=if a=b then some (some i) else zm qd 3 (.sc (.int .i64 a)) es (i+1):=by
 have h:jz qd 3 (.sc (.int .i64 a)) (.sc (.int .i64 b))=some (decide (a=b)):=keyI.eq a b trivial trivial
 grind [zm]
def RelN(mu:Mu)(g:Int)(l:List Int):Prop:=∃ t,mu[0]?=some (.arr [aI 0,.lst true []])/\mu[2]?=some (.arr [aI g,t])/\OwnI mu t l/\qo t≠some 0/\qo t≠some 2
theorem RelN.step{mu mu':Mu}{j av g l}(J:mu[0]?=some (.arr [aI 0,.lst true []]))(o:mu[2]?=some (.arr [aI j,av]))(n0:qo av≠some 0)(P:qo av≠some 2)(p:OwnI mu' g l)
  (R:∀ i,i<mu.length->qo av≠some i->mu'[i]?=mu[i]?) (T:mu.length<=mu'.length) (U:∀ b,qo g=some b->b=mu.length):mu'[2]?=some (.arr [aI j,av])/\RelN (mu'.set 2 (.arr [aI j,g])) j l:=by
 have l1:2<mu.length:=(qj.1 o).1;have t:qo g≠some 0:=fun e=>by grind
 have C:qo g≠some 2:=fun e=>by grind
 refine⟨by grind,g,by grind,by grind,p.same fun b I=>?_,t,C⟩
 grind
theorem uq{f:Nat}{l A E}(h:qP qd f l (endE A))(e:A=E):qP qd f l (endE E):=e ▸ h
theorem exprX(x N n)(I:WfN n)(o:OkMa x N)(J:IH x N n)(p)(C:OkP x N p)(P:bd p n) :
  qP qd 45 [eMa x,ePl p,eNd n] (endE ((den x n).E p)):=by
 refine za.of_sound ?_;refine qSW call45 func45 rfl {} ?_;have ab:=zS x;have l:=wk3 x p n;rw[wB];simp only[opD];generalize i:opE x n.op n.name n.n (n.sD.map (den x)) p=E;unfold opE at i;by_cases o6:n.op=6
 .obtain ⟨a,b,j⟩:=jg I zOm
  have g:=qkY x N n a b o j J p C P;rw[o6,j]at i;replace g:=uq g i;cases E with
  |error e =>
   simp[go_sem,o6,yo];refine aC g l ?_;simp[go_sem];exact .hf _ (qL _)
  |ok r =>
   simp[go_sem,o6,yo];refine fW g.toP l ?_;exact .hf _ (qs _)
 by_cases o7:n.op=7
 .obtain ⟨a,b,j⟩:=jg I zOm
  have g:=qkZ x N n a b o j J p C P;rw[o7,j]at i;replace g:=uq g i;cases E with
  |error e =>
   simp[go_sem,o7,yo];refine aC g l ?_;simp[go_sem];exact .hf _ (qL _)
  |ok r =>
   simp[go_sem,o7,yo];refine fW g.toP l ?_;exact .hf _ (qs _)
 by_cases o8:n.op=8
 .obtain ⟨a,b,j⟩:=jg I zOm
  have g:=diffX x N n a b o j J p C P;rw[o8,j]at i;replace g:=uq g i;cases E with
  |error e =>
   simp[go_sem,o8,yo];refine aC g l ?_;simp[go_sem];exact .hf _ (qL _)
  |ok r =>
   simp[go_sem,o8,yo];refine fW g.toP l ?_;exact .hf _ (qs _)
 by_cases T:n.op=14
 .obtain ⟨a,b,j⟩:=jg I zOm
  have g:=overX x N n a b o j J p C P;rw[T,j]at i;replace g:=uq g i;cases E with
  |error e =>
   simp[go_sem,T,yo];refine aC g l ?_;simp[go_sem];exact .hf _ (qL _)
  |ok r =>
   simp[go_sem,T,yo];refine fW g.toP l ?_;exact .hf _ (qs _)
 by_cases o9:n.op=9
 .obtain ⟨a,b,j⟩:=jg I zOm
  have g:=joinX x N n a b o j J p C P;rw[o9,j]at i;replace g:=uq g i;cases E with
  |error e =>
   simp[go_sem,o9,yo];refine aC g l ?_;simp[go_sem];exact .hf _ (qL _)
  |ok r =>
   simp[go_sem,o9,yo];refine fW g.toP l ?_;exact .hf _ (qs _)
 by_cases a0:n.op=10
 .obtain ⟨a,b,j⟩:=jg I zOm
  have g:=qk0 x N n a b o j J p C P;rw[a0,j]at i;replace g:=uq g i;cases E with
  |error e =>
   simp[go_sem,a0,yo];refine aC g l ?_;simp[go_sem];exact .hf _ (qL _)
  |ok r =>
   simp[go_sem,a0,yo];refine fW g.toP l ?_;exact .hf _ (qs _)
 by_cases a1:n.op=11
 .obtain ⟨a,j⟩:=ub I zOm
  have g:=qk2 x N n a o j J p C P;rw[a1,j]at i;replace g:=uq g i;cases E with
  |error e =>
   simp[go_sem,a1,yo];refine aC g l ?_;simp[go_sem];exact .hf _ (qL _)
  |ok r =>
   simp[go_sem,a1,yo];refine fW g.toP l ?_;exact .hf _ (qs _)
 by_cases a2:n.op=12
 .obtain ⟨a,j⟩:=ub I zOm
  have g:=mP x N n a o j J p C P;rw[a2,j]at i;replace g:=uq g i;cases E with
  |error e =>
   simp[go_sem,a2,yo];refine aC g l ?_;simp[go_sem];exact .hf _ (qL _)
  |ok r =>
   simp[go_sem,a2,yo];refine fW g.toP l ?_;exact .hf _ (qs _)
 by_cases a3:n.op=13
 .obtain ⟨a,j⟩:=ub I zOm
  have g:=qk3 x N n a o j J p C P;rw[a3,j]at i;replace g:=uq g i;cases E with
  |error e =>
   simp[go_sem,a3,yo];refine aC g l ?_;simp[go_sem];exact .hf _ (qL _)
  |ok r =>
   simp[go_sem,a3,yo];refine fW g.toP l ?_;exact .hf _ (qs _)
 by_cases o5:n.op=5
 .obtain ⟨a,j⟩:=ub I zOm
  have g:=qk1 x N n a o j J p C P;rw[o5,j]at i;replace g:=uq g i;cases E with
  |error e =>
   simp[go_sem,o5,yo];refine aC g l ?_;simp[go_sem];exact .hf _ (qL _)
  |ok r =>
   simp[go_sem,o5,yo];refine fW g.toP l ?_;exact .hf _ (qs _)
 by_cases a4:n.op=15
 .obtain ⟨a,b,j⟩:=jg I zOm
  have g:=qk8 x N n a b o j J p C P;rw[a4,j]at i;replace g:=uq g i;cases E with
  |error e =>
   simp[go_sem,a4,yo];refine aC g l ?_;simp[go_sem];exact .hf _ (qL _)
  |ok r =>
   simp[go_sem,a4,yo];refine fW g.toP l ?_;exact .hf _ (qs _)
 by_cases o1:n.op=1
 .have g:=qlF x N o n.name p C zOm
  have wn:WKs [eMa x,ePl p,aS n.name] [eMa x,ePl p,aS n.name] := .zk ab (.zk (Uu p) (.zs .nil));rw[o1]at i;replace g:=uq g i;cases E with
  |error e =>
   simp[go_sem,o1,yo];refine aC g wn ?_;simp[go_sem];exact .hf _ (qL _)
  |ok r =>
   simp[go_sem,o1,yo];refine fW g.toP wn ?_;exact .hf _ (qs _)
 by_cases o2:n.op=2
 .rw [o2]at i
  replace i:Except.ok ⟨n.n,[]⟩=E:=i;subst i;simp[go_sem,o2,yo];exact Yw
 by_cases o3:n.op=3
 .rw [o3]at i
  replace i:Except.ok ⟨1,(qr x.n.toNat).map fun k:Nat=>(k:Int)⟩=E:=i;subst i;have h0:=o.n0;have ad:=o.n12;obtain⟨m,hm⟩:=Int.eq_ofNat_of_zero_le h0;simp[go_sem,o3,yo];rw[hm]at ad;refine aP m (fun k U=>U.tm 6 = .ptr 0 0/\U.tm 10 = .ptr 2 0/\U.tm 47=aI m/\U.tm 48=aI k/\RelN U.mu 1 ((qr k).map fun k:Nat=>(k:Int))) ?_ ?_
  .exact ⟨zSi,zSi,zS1 hm,zSi,.lst true [],zSi,zSi,.inl ⟨rfl,rfl⟩,by simp[qo],by simp[qo]⟩
  rintro k U j ⟨e6,a5,a6,a7,t,g0,g2,ho,n0,n2⟩;by_cases a9:k<m
  .have w1:=zWk k
   simp[go_sem,a5,a6,a7,a9,g2];refine aV (e:=3) (bt:=8) (z:=0) zSi zSi zSi zOm ho.v zSo ?_;intro ai R a8 ae af ag;obtain⟨k1,k2⟩:=RelN.step g0 g2 n0 n2 a8 ae af ag;simp[go_sem,a5,a7,a9,k1,a8.v.one,a8.v.cells,w1];refine aM ⟨zS1 e6,zS1 a5,zS1 a6,zSi,?_⟩;rw[List.range_succ,zh];exact k2
  .have ah:k=m:=by omega
   subst ah;have aa:∀ c,(U.mu.set 0 c)[0]?=some c:=fun c=>qH (qj.1 g0).1
   rw[hm];simp[go_sem,e6,a5,a6,a7,g0,g2,aa,ho.v.one];refine aL (ho.v.same fun b hb=>?_);rw[z7 (fun e=>n0 (by rw[e];exact hb))]
 by_cases o4:n.op=4
 .rw [o4]at i
  replace i:Except.ok (idR x.n)=E:=i;subst i;simp[go_sem,o4,yo];refine fW (UC x.n o.n0 o.n12) (.zs .nil) ?_;exact .hf _ (qs _)
 have i:Except.error 43=E:=by
  rw[<-i];rw[if_neg o1,if_neg o2,if_neg o3,if_neg o4,if_neg o5,if_neg o6,if_neg o7,if_neg o8,if_neg o9,if_neg a0,if_neg a1,if_neg a2,if_neg a3,if_neg T,if_neg a4]
 subst i;simp[go_sem,o1,o2,o3,o4,o5,o6,o7,o8,o9,a0,a1,a2,a3,T,a4,yo];refine aC (wE 43) (wkI 43) ?_;simp[go_sem];exact .hf _ (qL _)
end F7
namespace F8
open Y1 P2 E1 E3 EA ER EY F1 F2 F3
theorem f30(x N n)(j:WfN n)(l:OkMa x N)(o:IH x N n)(p)(t:OkP x N p)(C:bd p n)(g:n.op=30):qP qd 49 [eMa x,ePl p,eNd n] (endB (Except.ok true)):=by
 refine za.of_sound ?_;refine qSW call49 func49 rfl {} ?_;have i:=zS x;simp[go_sem,g];exact .zsc _
theorem f31(x N n)(j:WfN n)(l:OkMa x N)(o:IH x N n)(p)(t:OkP x N p)(C:bd p n)(g:n.op=31):qP qd 49 [eMa x,ePl p,eNd n] (endB (Except.ok false)):=by
 refine za.of_sound ?_;refine qSW call49 func49 rfl {} ?_;have i:=zS x;simp[go_sem,g];exact .zsc _
theorem f32(x N n a b)(i:OkMa x N)(l:n.sD=[a,b])(o:IH x N n)(p)(t:OkP x N p)(T:bd p n)(C:n.op=32):qP qd 49 [eMa x,ePl p,eNd n] (endB ((bX (yh [den x a,den x b] p) fun q => .ok (decide ((diR q.1 q.2).ts=[]))))):=by
 refine za.of_sound ?_;refine qSW call49 func49 rfl {} ?_;have U:=zS x;have J:=wk3 x p n;generalize g:(bX (yh [den x a,den x b] p) fun q => .ok (decide ((diR q.1 q.2).ts=[])))=E;have j:=Yy x N n a b l o p t T;simp[go_sem,C];cases I:yh [den x a,den x b] p with
 |error e =>
  rw[I]at j g;subst g;refine aC j J ?_;simp[go_sem,zC];exact .hf _ (qL _)
 |ok q =>
  obtain⟨r,s⟩:=q;obtain⟨P,R,h3⟩:=wD I;simp only[kD,jh,List.getD_cons_succ]at P R;have gr:=(o a (by rw[l];simp) p t zOm).G _ P;have gs:=(o b (by rw[l];simp) p t zOm).G _ R;have lr:=gr.len i.n0 (cS i);have ls:=gs.len i.n0 (cS i);rw[I]at j g;rw[zi]at g;subst g;refine fW j.toP J ?_;refine fW (inU r s zOm zOm) (wkR2 r s) ?_;exact .zsc _
theorem f33(x N n a b)(i:OkMa x N)(l:n.sD=[a,b])(o:IH x N n)(p)(t:OkP x N p)(T:bd p n)(C:n.op=33):qP qd 49 [eMa x,ePl p,eNd n] (endB ((bX (yh [den x a,den x b] p) fun q => .ok (decide (q.1=q.2))))):=by
 refine za.of_sound ?_;refine qSW call49 func49 rfl {} ?_;have U:=zS x;have J:=wk3 x p n;generalize g:(bX (yh [den x a,den x b] p) fun q => .ok (decide (q.1=q.2)))=E;have j:=Yy x N n a b l o p t T;simp[go_sem,C];cases I:yh [den x a,den x b] p with
 |error e =>
  rw[I]at j g;subst g;refine aC j J ?_;simp[go_sem,zC];exact .hf _ (qL _)
 |ok q =>
  obtain⟨r,s⟩:=q;obtain⟨P,R,h3⟩:=wD I;simp only[kD,jh,List.getD_cons_succ]at P R;have gr:=(o a (by rw[l];simp) p t zOm).G _ P;have gs:=(o b (by rw[l];simp) p t zOm).G _ R;have lr:=gr.len i.n0 (cS i);have ls:=gs.len i.n0 (cS i);rw[I]at j g;rw[zi]at g;subst g;refine fW j.toP J ?_;refine fW (E4.XF r s zOm) (wkR2 r s) ?_;exact .zsc _
theorem f34(x N n a)(hM:OkMa x N)(t:n.sD=[a])(J:IH x N n)(p)(P:OkP x N p)(hq:bd p n)(g)(R:n.op=34/\g=(fun k=>decide (0<k))\/n.op=35/\g=(fun k=>decide (k=0))\/n.op=36/\g=(fun k=>decide (k=1))\/n.op=37/\g=fun k=>decide (k<=1)):qP qd 49 [eMa x,ePl p,eNd n] (endB ((bX ((den x a).E p) fun a => .ok (g a.ts.length)))):=by
 rcases R with ⟨o,rfl⟩|⟨o,rfl⟩|⟨o,rfl⟩|⟨o,rfl⟩
 all_goals
  refine za.of_sound ?_;refine qSW call49 func49 rfl {} ?_;have U:=zS x;have wx:=wk3 x p n;generalize i:bX ((den x a).E p) _=E;have j:=(J a (by rw[t];simp) p P zOm).E;have C:=wk3 x p a;simp[go_sem,o];refine fG [0,1,2,3,4,5,6,7,8,9] [(0,0,[]),(1,0,[]),(2,0,[]),(3,0,[]),(4,0,[]),(5,0,[]),(6,1,[]),(7,0,[]),(8,0,[]),(9,0,[])] zKr zKr zSi ?_;simp[go_sem,t];cases I:(den x a).E p with
  |error e =>
   rw[I]at j i;subst i;refine aC j C ?_;simp[go_sem,zC];exact .hf _ (qL _)
  |ok r =>
   rw[I]at j i;rw[zi]at i;subst i;refine t7 j.toP C ?_;obtain⟨ar,T⟩:=r;rcases T with _|⟨y,_|⟨z,l⟩⟩
   .simp [go_sem,o]
    exact .zsc _
   .simp [go_sem,o]
    exact .zsc _
   .have h1:(0:Int)<l.length+1+1:=by omega
    have h2:¬(l.length:Int)+1+1=1:=zOm;have h3:¬(l.length:Int)+1+1<=1:=zOm;have h4:¬(l.length:Int)+1+1=0:=zOm;simp[go_sem,o,h1,h2,h3,h4];exact .zsc _
theorem f38(x N n a b)(hM:OkMa x N)(j:n.sD=[a,b])(C:IH x N n)(p)(I:OkP x N p)(hq:bd p n)(g)(U:n.op=38/\g=(fun a b=>decide (a=b))\/n.op=39/\g=fun a b=>decide (a<b)):qP qd 49 [eMa x,ePl p,eNd n] (endB ((bX ((den x a).N p) fun a=>bX ((den x b).N p) fun b => .ok (g a b)))):=by
 rcases U with ⟨o,rfl⟩|⟨o,rfl⟩
 all_goals
  refine za.of_sound ?_;refine qSW call49 func49 rfl {} ?_;have a0:=zS x;have wx:=wk3 x p n;generalize i:bX ((den x a).N p) _=E;have l:=(C a (by rw[j];simp) p I zOm).N;have t:=(C b (by rw[j];simp) p I zOm).N;have J:=wk3 x p a;have P:=wk3 x p b;simp[go_sem,o];refine fG [0,1,2,3,4,5,7,8,9,10,11,12,6,13,14,15] [(0,0,[]),(1,0,[]),(2,0,[]),(3,0,[]),(4,0,[]),(5,0,[]),(7,0,[]),(8,0,[]),(9,0,[]),(10,0,[]),(11,0,[]),(12,0,[]),(6,1,[8,10,12]),(13,1,[]),(14,0,[]),(15,0,[])] zKr zKr zSi ?_;simp[go_sem,j];cases R:(den x a).N p with
  |error e =>
   rw[R]at l i;subst i;refine aC l J ?_;simp[go_sem,zC];exact .hf _ (qL _)
  |ok r =>
   rw[R]at l i;rw[zi]at i;refine t7 l.toP J ?_;simp[go_sem,j];cases T:(den x b).N p with
   |error e =>
    rw[T]at t i;subst i;refine aC t P ?_;simp[go_sem,zC];exact .hf _ (qL _)
   |ok s =>
    rw[T]at t i;rw[zi]at i;subst i;refine fW t.toP P ?_;exact .zsc _
theorem f40(x N n a)(P:OkMa x N)(l:n.sD=[a])(C:IH x N n)(p)(I:OkP x N p)(R:bd p n)(j:n.op=40):qP qd 49 [eMa x,ePl p,eNd n] (endB ((bX ((den x a).F p) fun a => .ok (!a)))):=by
 refine za.of_sound ?_;refine qSW call49 func49 rfl {} ?_;have J:=zS x;have T:=wk3 x p n;generalize g:(bX ((den x a).F p) fun a => .ok (!a))=E;have i:=(C a (by rw[l];simp) p I zOm).F;have o:=wk3 x p a;simp[go_sem,j];refine fG [0,1,2,3,4,5,6,7,8] [(0,0,[]),(1,0,[]),(2,0,[]),(3,0,[]),(4,0,[]),(5,0,[]),(6,1,[]),(7,0,[]),(8,0,[])] zKr zKr zSi ?_;simp[go_sem,l];cases t:(den x a).F p with
 |error e =>
  rw[t]at i g;subst g;refine aC i o ?_;simp[go_sem,zC];exact .hf _ (qL _)
 |ok r =>
  rw[t]at i g;rw[zi]at g;subst g;refine fW i.toP o ?_;exact .zsc _
theorem f41(x N n a b)(hM:OkMa x N)(j:n.sD=[a,b])(C:IH x N n)(p)(I:OkP x N p)(hq:bd p n)(g)(U:n.op=41/\g=(fun a b=>a&&b)\/n.op=42/\g=(fun a b=>a||b)\/n.op=43/\g=(fun a b=>!a||b)\/n.op=44/\g=fun a b=>decide (a=b)):qP qd 49 [eMa x,ePl p,eNd n] (endB ((bX ((den x a).F p) fun a=>bX ((den x b).F p) fun b => .ok (g a b)))):=by
 rcases U with ⟨o,rfl⟩|⟨o,rfl⟩|⟨o,rfl⟩|⟨o,rfl⟩
 all_goals
  refine za.of_sound ?_;refine qSW call49 func49 rfl {} ?_;have a0:=zS x;have wx:=wk3 x p n;generalize i:bX ((den x a).F p) _=E;have l:=(C a (by rw[j];simp) p I zOm).F;have t:=(C b (by rw[j];simp) p I zOm).F;have J:=wk3 x p a;have P:=wk3 x p b;simp[go_sem,o];refine fG [0,1,2,3,4,5,7,8,9,10,11,12,6,14,13,15] [(0,0,[]),(1,0,[]),(2,0,[]),(3,0,[]),(4,0,[]),(5,0,[]),(7,0,[]),(8,0,[]),(9,0,[]),(10,0,[]),(11,0,[]),(12,0,[]),(6,1,[8,10,12]),(14,0,[]),(13,1,[]),(15,0,[])] zKr zKr zSi ?_;simp[go_sem,j];cases R:(den x a).F p with
  |error e =>
   rw[R]at l i;subst i;refine aC l J ?_;simp[go_sem,zC];exact .hf _ (qL _)
  |ok r =>
   rw[R]at l i;rw[zi]at i;refine t7 l.toP J ?_;simp[go_sem,j];cases T:(den x b).F p with
   |error e =>
    rw[T]at t i;subst i;refine aC t P ?_;simp[go_sem,zC];exact .hf _ (qL _)
   |ok s =>
    rw[T]at t i;rw[zi]at i;subst i;refine t7 t.toP P ?_;cases r<;>cases s<;>simp[go_sem,o]<;>exact .zsc _
end F8
namespace E8
open E3 E7
theorem mY{x N}(h:OkX x N){s}(g:s<N)(k):it x k s∈x.path s:=by
 obtain⟨r,e,i⟩:=nU h g;obtain⟨j,l,o,_⟩:=i k;rw[e,o];exact qn.2 ⟨j,zK.2 l,rfl⟩
theorem ZT{x N}(h:OkX x N){s}(i:s<N){t}(g:t∈x.path s):∃ k,it x k s=t:=by
 obtain⟨r,e,l⟩:=nU h i;rw[e]at g;obtain⟨j,_,e⟩:=qn.1 g;exact⟨j,e⟩
end E8
namespace EB
end EB
namespace EK
open E3
theorem XZ{C j g}:∀{l:List C}{r:List j},mapX g l = .ok r->r.length=l.length
 | [],r,h=>by cases h;rfl
 |a :: l,r,h=>by
  rw[mapX]at h;cases o:g a with
  |error e=>rw[o]at h;cases h
  |ok b =>
   rw[o,zi]at h;cases i:mapX g l with
   |error e=>rw[i]at h;cases h
   |ok s =>
    rw[i,zi]at h;cases h;rw[yp,yp,XZ i]
end EK
namespace F9
open Y1 E3 E7 EA EL EO EP EW F1 F2 F3 F4 F5 F6
theorem f45(x N n a b)(J:OkMa x N)(hk:n.sD=[a,b])(ih:IH x N n)(p)(hp:OkP x N p)(hq:bd p n)(i:n.op=45):qP qd 49 [eMa x,ePl p,eNd n] (endB (bX (jH [den x a,den x b] n.name p) fun l => .ok (l.all fun e=>e.2))):=by
 refine za.of_sound ?_;refine qSW call49 func49 rfl {} ?_;have a0:=zS x;have o:=XV x N n a b J hk ih p hp hq;have wx:=wk3 x p n;simp[go_sem,i];cases P:jH [den x a,den x b] n.name p with
 |error e =>
  rw[P]at o;refine aC o wx ?_;simp[go_sem,zC];exact .hf _ (qL _)
 |ok l =>
  rw[P]at o;have hl:l.length<=8000:=XX P 8000 fun d h=>((ih a (by rw[hk];simp) p hp zOm).G d h).len J.n0 (cS J)
  have I:=XT 1 (l.map Prod.fst) (l.map Prod.snd) zSp zSo;rw[XW]at I;rw[UD]at o;refine t7 o.toP wx ?_;generalize insC 1 (l.map Prod.fst) (l.map Prod.snd)=C at *
  simp[go_sem,zi];refine dK I (fun j M=>∃ g,M = .arr [aB ((l.take j).any fun e=>e.2)] :: .arr [aB ((l.take j).all fun e=>e.2)] :: g) (fun _ _=>False) ?_ ?_ ?_ ?_ ?_ ?_
  .simp_all [qK,yD]
  .simp
  .grind
  .rintro j y M hj ⟨g,rfl⟩
   rw[zw,vL]at hj;obtain⟨t,ht,rfl⟩:=hj;obtain⟨R,T⟩:=qj.1 ht;have U:=yd R;rw[T]at U;refine⟨rfl,?_⟩;have ha:((l.take (j+1)).any fun e=>e.2)=((l.take j).any (fun e=>e.2)||t.2):=by rw[U,List.any_append];simp
   have hb:((l.take (j+1)).all fun e=>e.2)=((l.take j).all (fun e=>e.2)&&t.2):=by rw[U,List.all_append];simp
   generalize (l.take j).any (fun e=>e.2)=A at *
   generalize (l.take j).all (fun e=>e.2)=B at *
   cases A<;>cases B<;>cases t2:t.2
   all_goals simp[go_sem]
   all_goals refine dT ?_
   all_goals rw[ha,hb,t2]
   all_goals exact⟨_,rfl⟩
  .rintro M ⟨g,rfl⟩
   rw[zX,q8];generalize (l.any fun e=>e.2)=A at *
   generalize (l.all fun e=>e.2)=B at *
   cases A<;>cases B
   all_goals simp[go_sem,i]
   all_goals exact .zsc _
  grind
theorem f46(x N n a b)(J:OkMa x N)(hk:n.sD=[a,b])(ih:IH x N n)(p)(hp:OkP x N p)(hq:bd p n)(i:n.op=46):qP qd 49 [eMa x,ePl p,eNd n] (endB (bX (jH [den x a,den x b] n.name p) fun l => .ok (l.any fun e=>e.2))):=by
 refine za.of_sound ?_;refine qSW call49 func49 rfl {} ?_;have a0:=zS x;have o:=XV x N n a b J hk ih p hp hq;have wx:=wk3 x p n;simp[go_sem,i];cases P:jH [den x a,den x b] n.name p with
 |error e =>
  rw[P]at o;refine aC o wx ?_;simp[go_sem,zC];exact .hf _ (qL _)
 |ok l =>
  rw[P]at o;have hl:l.length<=8000:=XX P 8000 fun d h=>((ih a (by rw[hk];simp) p hp zOm).G d h).len J.n0 (cS J)
  have I:=XT 1 (l.map Prod.fst) (l.map Prod.snd) zSp zSo;rw[XW]at I;rw[UD]at o;refine t7 o.toP wx ?_;generalize insC 1 (l.map Prod.fst) (l.map Prod.snd)=C at *
  simp[go_sem,zi];refine dK I (fun j M=>∃ g,M = .arr [aB ((l.take j).any fun e=>e.2)] :: .arr [aB ((l.take j).all fun e=>e.2)] :: g) (fun _ _=>False) ?_ ?_ ?_ ?_ ?_ ?_
  .simp_all [qK,yD]
  .simp
  .grind
  .rintro j y M hj ⟨g,rfl⟩
   rw[zw,vL]at hj;obtain⟨t,ht,rfl⟩:=hj;obtain⟨R,T⟩:=qj.1 ht;have U:=yd R;rw[T]at U;refine⟨rfl,?_⟩;have ha:((l.take (j+1)).any fun e=>e.2)=((l.take j).any (fun e=>e.2)||t.2):=by rw[U,List.any_append];simp
   have hb:((l.take (j+1)).all fun e=>e.2)=((l.take j).all (fun e=>e.2)&&t.2):=by rw[U,List.all_append];simp
   generalize (l.take j).any (fun e=>e.2)=A at *
   generalize (l.take j).all (fun e=>e.2)=B at *
   cases A<;>cases B<;>cases t2:t.2
   all_goals simp[go_sem]
   all_goals refine dT ?_
   all_goals rw[ha,hb,t2]
   all_goals exact⟨_,rfl⟩
  .rintro M ⟨g,rfl⟩
   rw[zX,q8];generalize (l.any fun e=>e.2)=A at *
   generalize (l.all fun e=>e.2)=B at *
   cases A<;>cases B
   all_goals simp[go_sem,i]
   all_goals exact .zsc _
  grind
theorem mZ(x):∀ f s g,(Qc x f s g).length<=g.length+f
 | 0,s,g=>by simp[Qc]
 |f+1,s,g=>by
  simp only[Qc];split
  .omega
  .have:=mZ x f (x.nx s) (g++[s])
   rw[zf,List.length_singleton]at this;omega
theorem X0(x:Mo)(s):(x.path s).length<=x.m.sK.length+1:=by
 grind [mZ,Mo.path]
theorem UE{x N}(i:OkMa x N){p}(g:OkP x N p):∀ s,s∈x.path p.st->OkP x N ⟨s,p.env⟩:=fun s j=>by
 obtain⟨k,rfl⟩:=E8.ZT i.toOkX g.st j;exact⟨ZM i.toOkX g.st k,g.env⟩
theorem X1(l:List Bool):l.all id=!decide (false∈l):=by
 rw[vy];simp
theorem qlG(l:List Bool):l.any id=decide (true∈l):=by
 rw[vy];simp
theorem f48(x N n a)(o:OkMa x N)(t:n.sD=[a])(R:IH x N n)(p)(P:OkP x N p)(hq:bd p n)(C:n.op=48):qP qd 49 [eMa x,ePl p,eNd n] (endB (bX (mapX (fun s=>(den x a).F ⟨s,p.env⟩) (x.path p.st)) fun l => .ok (l.all id))):=by
 refine za.of_sound ?_;refine qSW call49 func49 rfl {} ?_;have i:=zS x;have hN:=o.N1;have hl:=o.len;have I:=XQ x N o p.st P.st;have T:=X0 x p.st;have J:WKs [eMa x,aI p.st] [eMa x,aI p.st] := .zk i (.zs .nil);have g:=mQ x (x.path p.st) zOm p a fun s U=>R a (by rw[t];simp) _ (UE o P s U) (by grind)
 have j:WKs [eMa x,lN (x.path p.st),ePl p,eNd a] [eMa x,lN (x.path p.st),ePl p,eNd a] := .zk i (.cons (cG _) (.zk (Uu p) (.zk (qC a) .nil)));simp[go_sem,C];refine fG [0,1,2,3,5,6,7,8,9,4,10,11,12,13] [(0,0,[]),(1,0,[]),(2,0,[]),(3,0,[]),(5,0,[]),(6,0,[]),(7,0,[]),(8,0,[]),(9,0,[]),(4,1,[5,7,9]),(10,1,[]),(11,1,[]),(12,0,[]),(13,0,[])] zKr zKr zSi ?_;simp[go_sem,t];refine t7 I J ?_;simp[go_sem,t];cases em:mapX (fun s=>(den x a).F ⟨s,p.env⟩) (x.path p.st) with
 |error e =>
  rw[em]at g;refine aC g j ?_;simp[go_sem,zC];exact .hf _ (qL _)
 |ok l =>
  rw[em]at g;have a0:l.length=(x.path p.st).length:=EK.XZ em;refine fW g.toP j ?_;refine t7 (mR l false zOm) (.zk (Ut l) (.zs .nil)) ?_;have hb:(l.all id)=!decide (false∈l):=X1 l;generalize decide (false∈l)=B at *
  simp[go_sem,zi,hb];exact .zsc _
theorem f49(x N n a)(o:OkMa x N)(t:n.sD=[a])(R:IH x N n)(p)(P:OkP x N p)(hq:bd p n)(C:n.op=49):qP qd 49 [eMa x,ePl p,eNd n] (endB (bX (mapX (fun s=>(den x a).F ⟨s,p.env⟩) (x.path p.st)) fun l => .ok (l.any id))):=by
 refine za.of_sound ?_;refine qSW call49 func49 rfl {} ?_;have i:=zS x;have hN:=o.N1;have hl:=o.len;have I:=XQ x N o p.st P.st;have T:=X0 x p.st;have J:WKs [eMa x,aI p.st] [eMa x,aI p.st] := .zk i (.zs .nil);have g:=mQ x (x.path p.st) zOm p a fun s U=>R a (by rw[t];simp) _ (UE o P s U) (by grind)
 have j:WKs [eMa x,lN (x.path p.st),ePl p,eNd a] [eMa x,lN (x.path p.st),ePl p,eNd a] := .zk i (.cons (cG _) (.zk (Uu p) (.zk (qC a) .nil)));simp[go_sem,C];refine fG [0,1,2,3,5,6,7,8,9,4,10,11,12] [(0,0,[]),(1,0,[]),(2,0,[]),(3,0,[]),(5,0,[]),(6,0,[]),(7,0,[]),(8,0,[]),(9,0,[]),(4,1,[5,7,9]),(10,1,[]),(11,1,[]),(12,0,[])] zKr zKr zSi ?_;simp[go_sem,t];refine t7 I J ?_;simp[go_sem,t];cases em:mapX (fun s=>(den x a).F ⟨s,p.env⟩) (x.path p.st) with
 |error e =>
  rw[em]at g;refine aC g j ?_;simp[go_sem,zC];exact .hf _ (qL _)
 |ok l =>
  rw[em]at g;have a0:l.length=(x.path p.st).length:=EK.XZ em;refine fW g.toP j ?_;refine t7 (mR l true zOm) (.zk (Ut l) (.zs .nil)) ?_;have hb:(l.any id)=decide (true∈l):=qlG l;generalize decide (true∈l)=B at *
  simp[go_sem,zi,hb];exact .zsc _
theorem f50(x N n a)(g:OkMa x N)(j:n.sD=[a])(P:IH x N n)(p)(C:OkP x N p)(T:bd p n)(l:n.op=50):qP qd 49 [eMa x,ePl p,eNd n] (endB ((den x a).F ⟨x.nx p.st,p.env⟩)):=by
 refine za.of_sound ?_;refine qSW call49 func49 rfl {} ?_;have R:=zS x;have i:=(P a (by rw[j];simp) _ (OkP.nx g.toOkM C) (by grind)).F;have I:=wk3 x ⟨x.nx p.st,p.env⟩ a;have U:=g.N1;have hl:=g.len;have o:=Xz x g.loop zOm p.st (zW1 C.st);have t:WKs [eMd x.m,aI p.st] [eMd x.m,aI p.st] := .zk (J4 x.m) (.zs .nil);simp[go_sem,l];refine fG [0,1,2,3,4,5,6,8,9,11,12,13,14,7,10,15,16] [(0,0,[]),(1,0,[]),(2,0,[]),(3,0,[]),(4,0,[]),(5,0,[]),(6,0,[]),(8,0,[]),(9,0,[]),(11,0,[]),(12,0,[]),(13,0,[]),(14,0,[]),(7,1,[9,12,14]),(10,0,[]),(15,1,[]),(16,0,[])] zKr zKr zSi ?_;simp[go_sem,j];refine t7 o t ?_;simp[go_sem,j];cases J:(den x a).F ⟨x.nx p.st,p.env⟩ with
 |error e =>
  rw[J]at i;refine aC i I ?_;simp[go_sem];exact .hf _ (qL _)
 |ok r =>
  rw[J]at i;refine fW i.toP I ?_;exact .zsc _
theorem f51(x N n a b)(g:OkMa x N)(i:n.sD=[a,b])(o:IH x N n)(p)(j:OkP x N p)(R:bd p n)(l:n.op=51):qP qd 49 [eMa x,ePl p,eNd n] (endB (untX (fun s=>(den x a).F ⟨s,p.env⟩) (fun s=>(den x b).F ⟨s,p.env⟩) (x.path p.st) false false)):=by
 refine za.of_sound ?_;refine qSW call49 func49 rfl {} ?_;have J:=zS x;have T:=g.N1;have U:=g.len;have P:=X0 x p.st;have t:=qk5 x N n a b g i p j (fun s C=>⟨o a (by rw[i];simp) _ (UE g j s C) (by grind),o b (by rw[i];simp) _ (UE g j s C) (by grind)⟩) zOm;have I:=wk3 x p n;generalize untX (fun s=>(den x a).F ⟨s,p.env⟩) (fun s=>(den x b).F ⟨s,p.env⟩) (x.path p.st) false false=E at *
 simp[go_sem,l];cases E with
 |error e =>
  refine aC t I ?_;simp[go_sem];exact .hf _ (qL _)
 |ok r =>
  refine fW t.toP I ?_;exact .zsc _
theorem f47(x N n)(hM:OkMa x N)(a0:n.sD.length<=1000000)(ih:IH x N n)(p)(hp:OkP x N p)(hq:bd p n)(J:n.op=47):qP qd 49 [eMa x,ePl p,eNd n] (endB (bX (mapX (fun d:Den=>d.E p) (n.sD.map (den x))) fun _ => .error 45)):=by
 refine za.of_sound ?_;refine qSW call49 func49 rfl {} ?_;have a1:=zS x;generalize T:mapX (fun d:Den=>d.E p) (n.sD.map (den x))=E;simp[go_sem,J];refine aP n.sD.length (fun k U=>∃ t,mapX (fun d:Den=>d.E p) ((n.sD.take k).map (den x)) = .ok t/\U.tm 0=eMa x/\U.tm 4 = .ip (cPl p)/\U.tm 282=lNd n.sD/\U.tm 283=aI n.sD.length/\U.tm 284=aI k) ?_ ?_
 .exact ⟨[],rfl,zSi,zSi,zSi,zSi,zSi⟩
 rintro k U hk ⟨t,C,e0,e4,o,g,i⟩;by_cases j:k<n.sD.length
 .have w1:=zWk k
  have I:=(ih n.sD[k] (qv j) p hp zOm).E;have hw:=wk3 x p n.sD[k];have l:=ZR (l2:=(n.sD.drop k).map (den x)) C;rw[<-zh,uA,ze j,zd,mapX,T]at l;simp[go_sem,e0,e4,o,g,i,j];cases P:(den x n.sD[k]).E p with
  |error e =>
   rw[P]at I l;rw[zC,zC]at l;subst l;refine aC I hw ?_;simp[go_sem,zC];exact .hf _ (qL _)
  |ok r =>
   rw[P]at I;refine t7 I.toP hw ?_;simp[go_sem,i,w1];refine⟨j,aM ⟨t++[r],?_,zS1 e0,zS1 e4,by simp[go_sem,o],by simp[go_sem,g],zSi⟩⟩;rw[yd j,zh,ZR C,zd,List.map_nil,mapX,P];rfl
 .have R:k=n.sD.length:=by omega
  subst R;rw[q8,T]at C;subst C;rw[zi];simp[go_sem,g,i];refine aC (wE 45) (wkI 45) ?_;simp[go_sem];exact .hf _ (qL _)
theorem fNo(x n p)(h:∀ k,(30<=k/\k<=51)->n.op≠k):qP qd 49 [eMa x,ePl p,eNd n] (endB (.error 43)):=by
 refine za.of_sound ?_;refine qSW call49 func49 rfl {} ?_;have a9:=zS x;have g:=h 30 zDe;have i:=h 31 zDe;have j:=h 32 zDe;have l:=h 33 zDe;have o:=h 34 zDe;have t:=h 35 zDe;have C:=h 36 zDe;have I:=h 37 zDe;have J:=h 38 zDe;have P:=h 39 zDe;have R:=h 40 zDe;have T:=h 41 zDe;have U:=h 42 zDe;have a0:=h 43 zDe;have a1:=h 44 zDe;have a2:=h 45 zDe;have a3:=h 46 zDe;have a4:=h 47 zDe;have a5:=h 48 zDe;have a6:=h 49 zDe;have a7:=h 50 zDe;have a8:=h 51 zDe;simp[go_sem,g,i,j,l,o,t,C,I,J,P,R,T,U,a0,a1,a2,a3,a4,a5,a6,a7,a8];refine aC (wE 43) (wkI 43) ?_;simp[go_sem];exact .hf _ (qL _)
end F9
namespace FA
open Y1 Y9 P2 E3 EA F1 F2 F3 F4 F7 F8 F9
theorem yS{f:Nat}{l A E}(h:qP qd f l (endB A))(e:A=E):qP qd f l (endB E):=e ▸ h
theorem qlH(x N n)(i:WfN n)(j:OkMa x N)(l:IH x N n)(p)(o:OkP x N p)(t:bd p n) :
  qP qd 49 [eMa x,ePl p,eNd n] (endB ((den x n).F p)):=by
 rw[wB];show qP _ _ _ (endB (opF x n.op n.name (n.sD.map (den x)) p));by_cases C:n.op=30
 .exact yS (f30 x N n i j l p o t C) (by rw[C];rfl)
 by_cases I:n.op=31
 .exact yS (f31 x N n i j l p o t I) (by rw[I];rfl)
 by_cases J:n.op=32
 .obtain ⟨a,b,g⟩:=jg i zOm
  exact yS (f32 x N n a b j g l p o t J) (by rw[J,g];rfl)
 by_cases P:n.op=33
 .obtain ⟨a,b,g⟩:=jg i zOm
  exact yS (f33 x N n a b j g l p o t P) (by rw[P,g];rfl)
 by_cases R:n.op=34
 .obtain ⟨a,g⟩:=ub i zOm
  exact yS (f34 x N n a j g l p o t _ (.inl ⟨R,rfl⟩)) (by rw[R,g];rfl)
 by_cases T:n.op=35
 .obtain ⟨a,g⟩:=ub i zOm
  exact yS (f34 x N n a j g l p o t _ (.inr (.inl ⟨T,rfl⟩))) (by rw[T,g];rfl)
 by_cases U:n.op=36
 .obtain ⟨a,g⟩:=ub i zOm
  exact yS (f34 x N n a j g l p o t _ (.inr (.inr (.inl ⟨U,rfl⟩)))) (by rw[U,g];rfl)
 by_cases a0:n.op=37
 .obtain ⟨a,g⟩:=ub i zOm
  exact yS (f34 x N n a j g l p o t _ (.inr (.inr (.inr ⟨a0,rfl⟩)))) (by rw[a0,g];rfl)
 by_cases a1:n.op=38
 .obtain ⟨a,b,g⟩:=jg i zOm
  exact yS (f38 x N n a b j g l p o t _ (.inl ⟨a1,rfl⟩)) (by rw[a1,g];rfl)
 by_cases a2:n.op=39
 .obtain ⟨a,b,g⟩:=jg i zOm
  exact yS (f38 x N n a b j g l p o t _ (.inr ⟨a2,rfl⟩)) (by rw[a2,g];rfl)
 by_cases a3:n.op=40
 .obtain ⟨a,g⟩:=ub i zOm
  exact yS (f40 x N n a j g l p o t a3) (by rw[a3,g];rfl)
 by_cases a4:n.op=41
 .obtain ⟨a,b,g⟩:=jg i zOm
  exact yS (f41 x N n a b j g l p o t _ (.inl ⟨a4,rfl⟩)) (by rw[a4,g];rfl)
 by_cases a5:n.op=42
 .obtain ⟨a,b,g⟩:=jg i zOm
  exact yS (f41 x N n a b j g l p o t _ (.inr (.inl ⟨a5,rfl⟩))) (by rw[a5,g];rfl)
 by_cases a6:n.op=43
 .obtain ⟨a,b,g⟩:=jg i zOm
  exact yS (f41 x N n a b j g l p o t _ (.inr (.inr (.inl ⟨a6,rfl⟩)))) (by rw[a6,g];rfl)
 by_cases a7:n.op=44
 .obtain ⟨a,b,g⟩:=jg i zOm
  exact yS (f41 x N n a b j g l p o t _ (.inr (.inr (.inr ⟨a7,rfl⟩)))) (by rw[a7,g];rfl)
 by_cases a8:n.op=45
 .obtain ⟨a,b,g⟩:=jg i zOm
  exact yS (f45 x N n a b j g l p o t a8) (by rw[a8,g];rfl)
 by_cases a9:n.op=46
 .obtain ⟨a,b,g⟩:=jg i zOm
  exact yS (f46 x N n a b j g l p o t a9) (by rw[a9,g];rfl)
 by_cases aa:n.op=47
 .exact yS (f47 x N n j (zW1 i.small.len) l p o t aa) (by rw[aa];rfl)
 by_cases ab:n.op=48
 .obtain ⟨a,g⟩:=ub i zOm
  exact yS (f48 x N n a j g l p o t ab) (by rw[ab,g];rfl)
 by_cases ad:n.op=49
 .obtain ⟨a,g⟩:=ub i zOm
  exact yS (f49 x N n a j g l p o t ad) (by rw[ad,g];rfl)
 by_cases ae:n.op=50
 .obtain ⟨a,g⟩:=ub i zOm
  exact yS (f50 x N n a j g l p o t ae) (by rw[ae,g];rfl)
 by_cases af:n.op=51
 .obtain ⟨a,b,g⟩:=jg i zOm
  exact yS (f51 x N n a b j g l p o t af) (by rw[af,g];rfl)
 refine yS (fNo x n p fun k g e=>?_) ?_
 .omega
 simp_all[opF,if_neg]
theorem evX(x N)(j:OkMa x N):∀ m n,szN n<=m->WfN n->∀ p,OkP x N p->bd p n->Ev3 x p n
 | 0,n,I,_,_,_,_=>by
  obtain⟨op,nm,i,ks,q⟩:=n;simp only[szN,Nd.mk.sizeOf_spec]at I;omega
 |m+1,n,I,l,p,g,o=>by
  have t:IH x N n:=fun k C p g o=>evX x N j m k (zW1 (qZ C)) (l.kid C) p g (by have:=qkW C;show _+_<=_;omega)
  exact⟨exprX x N n l j t p g o,qk6 x N n l j t p g o,qlH x N n l j t p g o,fun r h=>Ur j.toOkM _ n (qk _) l p r g h⟩
end FA
namespace FB
open Y1 Y9 P2 YF E3 EA F1 F2 F3 FA
def outB:XE Bool->AV
 | .ok r => .tup [aB r,aI 0]
 | .error e => .tup [aB false,aI e]
theorem wkM(x:Mo):WKs [eTS x.ts,eMd x.m] [eTS x.ts,eMd x.m] := .zk (zA x.ts) (.zk (J4 x.m) .nil)
theorem qlI(x N n)(o:WfN n)(i:OkMa x N)(p)(t:OkP x N p)(C:bd p n) :
  qh qd 16 [eTS x.ts,eMd x.m,aI p.st,lPm p.env,eNd n] (outB ((den x n).F p)):=by
 have hf:=(evX x N i (szN n) n (qk _) o p t C).F;have j:=wk3 x p n;generalize (den x n).F p=E at *
 refine qP.toP ?_;refine za.of_sound ?_;refine fZ call16 func16 rfl (Nat.le_of_ble_eq_true zKr) zKr (pl:={}) ?_;simp[go_sem];refine dS (g:=43) (first:=[]) (caps:=[]) zSi call43 ?_;simp[go_sem];refine qi.tail 7 zKr ?_;simp[go_sem];refine fW (qj6 x i.gsc) (wkM x) ?_;cases E with
 |error e =>
  refine aC hf j ?_;simp[go_sem];refine ya.mono (qj8 [.arr [aI 0]] 0 0 e rfl) ?_;rintro _ rfl;simp[go_sem];exact .hf _ (HF.tup (by simp only[qx,qN,or_false,forall_eq_or_imp,forall_eq];exact⟨HF.sc _,HF.sc _⟩))
 |ok r =>
  refine fW hf.toP j ?_;refine ya.mono (qj7 [.arr [aI 0]] 0 0 rfl) ?_;rintro _ rfl;simp[go_sem];exact .hf _ (HF.tup (by simp only[qx,qN,or_false,forall_eq_or_imp,forall_eq];exact⟨HF.sc _,HF.sc _⟩))
end FB
namespace FC
end FC
namespace E9
open P1 YF E1
theorem m5(sc)(g:GSc sc):qh qd 31 [eSc sc] (aI (sumI sc.sC)):=by
 refine qSU call31 func31 rfl ?_;refine ql.up sc.sC.length (fun k U=>U.tm 1 = .ip [lI sc.sC,aI sc.sN]/\U.tm 3=aI (sumI (sc.sC.take k))/\U.tm 4=aI k/\U.mu=[]) ?_ ?_
 .simp [go_sem,sumI]
 rintro k U J ⟨o,p,t,C⟩;have P:=g.1;simp[go_sem,o,t,C];refine tQ (fun i=>?_) (fun j=>?_)
 .have i:k<sc.sC.length:=by simpa using i
  have I:=wm sc.sC k i;have l:=g.sum (k+1);rw[I]at l;simp[go_sem,o,p,t,i]
  grind [yn]
 .have j:k=sc.sC.length:=by simp at j;omega
  subst j;simp[go_sem,p];exact .zsc _
def uc:List Int->Int->Int->Int
 | [],_,_ => -1
 |a :: l,x,i=>if x<a then i else uc l (x-a) (i+1)
def ud(sc:Sc)(x:Int):Int:=uc sc.sC x 0
theorem m8(l:List Int)(k x i h):uc (l.drop k) x i=if x<l[k] then i else uc (l.drop (k+1)) (x-l[k]) (i+1):=by
 rw[ze h,uc]
def jJ(g:Sp)(sc:Sc):Bool:=decide (sc.sC.length=g.sS.length)&&decide (g.sS.length<=4)&&decide (1<=sc.sN)&&decide (sc.sN<=4)&&sc.sC.all (fun a=>decide (1<=a)&&decide (a<=5))&&decide (sumI sc.sC<=12)
theorem qlJ(p sc)(I:sc.sC.length<=9223372036854775807):qh qd 30 [eSp p,eSc sc] (aB (jJ p sc)):=by
 refine qSV call30 func30 rfl ?_;by_cases t:sc.sC.length=p.sS.length
 case neg =>
  simp[go_sem,t,jJ];exact .zsc _
 by_cases o:(4:Int)<p.sS.length
 case pos =>
  simp[go_sem,t,o,jJ,show ¬p.sS.length<=4 by omega];exact .zsc _
 by_cases h3:sc.sN<1
 case pos =>
  simp[go_sem,t,o,h3,jJ,show ¬ 1<=sc.sN by omega];exact .zsc _
 by_cases h4:4<sc.sN
 case pos =>
  simp[go_sem,t,o,h3,h4,jJ,show ¬sc.sN<=4 by omega];exact .zsc _
 simp[go_sem,t,o,h3,h4];refine ql.up sc.sC.length (fun k U=>U.tm 3 = .ip [lI sc.sC,aI sc.sN]/\U.tm 5=aI k/\U.mu=[]/\∀(i:Nat)(h:i<sc.sC.length),i<k->1<=sc.sC[i]/\sc.sC[i]<=5) ?_ ?_
 .simp [go_sem]
 rintro k U hk ⟨J,P,R,he⟩;by_cases l:k<sc.sC.length
 .by_cases hb:sc.sC[k]<1\/5<sc.sC[k]
  .have:sc.sC.all (fun a=>decide (1<=a)&&decide (a<=5))=false:=by
    rw[<-Bool.not_eq_true,qY];intro j;have:=j _ (qv l);simp at this;omega
   have:jJ p sc=false:=by simp only[jJ,this,Bool.and_false,Bool.false_and]
   rw[this];by_cases C:sc.sC[k]<1
   .simp [go_sem,J,P,R,l,C]
    exact .zsc _
   .simp [go_sem,J,P,R,l,C,show 5<sc.sC[k] by omega]
    exact .zsc _
  .simp [go_sem,J,P,R,l,show ¬sc.sC[k]<1 by omega,show ¬ 5<sc.sC[k] by omega]
   refine⟨zWr,fun i h T=>?_⟩;rcases Nat.lt_succ_iff_lt_or_eq.1 T with o|o
   .exact he i h o
   .subst o;exact⟨zOm,zOm⟩
 .have a0:k=sc.sC.length:=by omega
  subst a0;have j:sc.sC.all (fun a=>decide (1<=a)&&decide (a<=5))=true:=by
   rw[qY];intro a I;obtain⟨i,T,rfl⟩:=List.getElem_of_mem I;have:=he i T T;simp;omega
  have g:GSc sc:=⟨zOm,fun a I=>by
   have:=qY.1 j a I;simp at this;omega⟩
  simp[go_sem,J,P,R];refine fW (m5 sc g) (.zk (zF sc) .nil) ?_;simp only[jJ,t,j,show p.sS.length<=4 by omega,show 1<=sc.sN by omega,show sc.sN<=4 by omega];simp;exact .zsc _
def divN(n x:Int):Nat->Int
 | 0=>x
 |j+1=>divN n x j / n
theorem qu4{n r}(h:jv n r=true):∀ t,t∈r.ts->0<=t/\t<=1000000:=by
 intro t g;simp only[jv,qB,decide_eq_true_eq,qY]at h;obtain⟨⟨⟨⟨⟨i,o⟩,p⟩,C⟩,j⟩,_⟩:=h;have l:=j t g;have I:=Yo i zOm (powN r.ar) (by unfold powN;omega);unfold powI at l;omega
theorem UF{g sc}(h:jJ g sc=true):GSc sc:=by
 simp only[jJ,qB,decide_eq_true_eq,qY]at h;obtain⟨⟨⟨⟨⟨i,j⟩,l⟩,o⟩,p⟩,_⟩:=h;exact⟨zOm,fun a t=>by grind⟩
def spOf(ts:TS):Sp:=⟨ts.sS,ts.sA,ts.sT.map cPd,ts.sP.map cFa,Q0 ts.sT,JR ts.sP⟩
end E9
namespace Y13
open Y1 Y2 Y3 P1 YM Y5 Y6 Y7 YF Y9 Y10 Y11 Y12 P2
theorem qlK(p n):qh qd 221 [.agg (cPd p),.ip (cNd n)] (aB (decide (p.name=n.name))):=by
 refine qSV call221 func221 rfl ?_;simp[go_sem,y5];exact .zsc _
def uM(c:Ck)(s:Scp)(n:Nd):Res:=
 if (c.ts.sT.any fun p=>decide (p.name=n.name))=true then
  match zy c n.name with
  |none => .error (45,n.pos)
  |some p=>match c.ts.sT[p]? with
   |none => .error (45,n.pos)
   |some g=>if g.params.length=n.sD.length then zZ c s n.pos g.params n.sD else .error (45,n.pos)
 else .error (40,n.pos)
def endC:Res->AEnd
 | .ok _ => .ret (.tup [])
 | .error e => .pan (vB e.1 e.2)
@[go_sem] theorem endC_ok(k):endC (.ok k) = .ret (.tup []):=rfl
@[go_sem] theorem qu5(e):endC (.error e) = .pan (vB e.1 e.2):=rfl
theorem X2(n):HF (.ip (cNd n)):=HF.ip (jE n)
theorem hf_t0:HF (.tup []):=HF.tup zSp
theorem callU(c)(hc:okCk c)(s)(hs:ScOk c.ts.sS.length s)(n)(hw:WfN n)(az:n.op=47)
  (ih:∀ k,k∈n.sD->qP qd 76 [eCk c,aSc s,eNd k,aB true] (endK (exam c s true k))) :
  qP qd 162 [eCk c,aSc s,eNd n] (endC (uM c s n)):=by
 refine za.of_sound ?_;refine qSW call162 func162 rfl {} ?_;have b0:=hc.ts.np;have b1:=hw.len;have J:=hasPd false c.ts.sT (.fn (.func 221) [] [.ip (cNd n)]) (fun p=>decide (p.name=n.name)) ⟨_,_,_,rfl,fun p hp=>⟨_,qlK p n,.zk (HF.agg (Xo p)) (.zk (X2 n) .nil)⟩⟩ (HF.fn zSp (fun x hx=>by grind [X2])) (Q0 _) zOm;have a7:WKs [lPd c.ts.sT,.fn (.func 221) [] [.ip (cNd n)]] [lPd c.ts.sT,.fn (.func 221) [] [.ip (cNd n)]] := .zk (Q0 _) (.zk (HF.fn zSp (fun x hx=>by grind [X2])) .nil);generalize P:uM c s n=R;unfold uM at P;simp[go_sem];cases hA:c.ts.sT.any (fun p=>decide (p.name=n.name)) with
 |false =>
  rw[hA]at J P;subst P;refine qi.tail 8 zKr ?_;simp[go_sem];refine fW J a7 ?_;refine aC (yb false 40 n) (wkR n false 40) ?_;simp[go_sem];exact .hf _ (yF _ _)
 |true =>
  rw[hA]at J P;rw[if_pos rfl]at P;refine fD ?_;refine fW J a7 ?_;refine fW (yb true 40 n).toP (wkR n true 40) ?_;refine t7 (nH c hc n.name) (.zk (je c) (.zs .nil)) ?_;cases T:zy c n.name with
  |none =>
   rw[T]at P;subst P;simp[go_sem];refine qi.tail 19 zKr ?_;simp[go_sem];refine aC (yb false 45 n) (wkR n false 45) ?_;simp[go_sem];exact .hf _ (yF _ _)
  |some p =>
   obtain⟨b2,a0⟩:=ZK hc T;have b3:=hc.ts.pl _ (qv a0);rw[T]at P;simp only[qw a0]at P;simp[go_sem];generalize a5:c.ts.sT[p]=j at *
   by_cases C:j.params.length=n.sD.length
   .rw [if_pos C]at P
    refine tV zKr ?_;simp[go_sem,a0,a5,C];refine t7 (yb true 45 n).toP (wkR n true 45) ?_;simp[go_sem,a0,a5,C];have a8:=hw.shape;have ah:∀(k:Nat)(h:k<n.sD.length),kd n.sD[k].op=101:=by
     have e:shp n.op n.sD.length=some (qM (min n.sD.length 401) 101):=by
      simp_all[shp,if_neg,if_pos]
     rw[e]at a8;simp only[qp]at a8;intro k h;have h2:(n.sD.map fun k=>kd k.op)[k]?=some (kd n.sD[k].op):=by rw[zw,qw h];rfl
     grind
    refine aP j.params.length (fun k U=>U.tm 0=eCk c/\U.tm 1=aSc s/\U.tm 5 = .ip (cNd n)/\U.tm 54=lPm j.params/\U.tm 55=aI n.sD.length/\U.tm 56=aI k/\zZ c s n.pos (j.params.drop k) (n.sD.drop k)=R) ?_ ?_
    .simp [go_sem, *]
    .rintro k U hk ⟨e0,e1,e5,ai,a9,aa,I⟩
     by_cases ab:k=j.params.length
     .subst ab
      rw[zY,C,zY]at I;simp only[zZ]at I;subst I;simp[go_sem,a9,aa,C];exact .hf _ hf_t0
     .have ad:k<j.params.length:=by omega
      have o:k<n.sD.length:=zOm;have w1:=zWk k;have hi:=ih n.sD[k] (qv o);rw[ze ad,ze o]at I;simp only[zZ]at I;have aj:=jI hc (szN n.sD[k]) n.sD[k] s true;have ak:=ah k o;have ae:=hw.kid (qv o);simp[go_sem,e0,e1,e5,ai,a9,aa,ad,o];cases hx:exam c s true n.sD[k] with
      |error e =>
       rw[hx]at hi I;subst I;refine aC hi (.zk (je c) (.zk (wo s) (.zk (qC _) (.zs .nil)))) ?_;simp[go_sem];exact .hf _ (yF _ _)
      |ok ko =>
       obtain⟨kk,rfl,a2⟩:=aj ko (qk _) ae hs hx ak;rw[hx]at hi I;simp only at I;refine t7 hi.toP (.zk (je c) (.zk (wo s) (.zk (qC _) (.zs .nil)))) ?_;by_cases a1:kk.ar=1
       .rw [if_pos a1]at I
        simp[go_sem,e5,a1];refine fW (yb true 42 n).toP (wkR n true 42) ?_;refine ql.seen kk.ts.length (fun seen g=>g.tm 0=eCk c/\g.tm 1=aSc s/\g.tm 5 = .ip (cNd n)/\g.tm 54=lPm j.params/\g.tm 55=aI n.sD.length/\g.tm 56=aI k/\g.tm 9 = .ptr U.mu.length 0/\g.tm 76 = .ptr (U.mu.length+2) 0 /\
         g.mu[U.mu.length]?=some (.arr [aS j.params[k].1,aI j.params[k].2])/\g.mu[U.mu.length+2]?=some (.it (eT kk.ts) seen)/\∀ i t,i∈seen->kk.ts[i]?=some t->t.getD 0 0=j.params[k].2) ?_ ?_
        .simp [go_sem, *]
        .rintro seen g b4 ax ⟨f0,f1,f5,f54,f55,f56,f9,f76,g0,g2,ay⟩
         simp[go_sem,f76];refine⟨U.mu.length+2,eT kk.ts,seen,rfl,g2,fun i e hi al=>?_,fun an=>?_⟩
         .obtain ⟨x,a6,rfl⟩:=Qw hi
          have ao:okT x:=a2.okK.len x (qX a6);have aq:i<kk.ts.length:=(qj.1 a6).1;have au:x.length=3:=ao;have av:x∈kk.ts:=qX a6;have a3:U.mu.length+2<g.mu.length:=(qj.1 g2).1;have a4:∀(c:Cell)(l:List Cell),((g.mu.set (U.mu.length+2) c)++l)[U.mu.length]?=some (.arr [aS j.params[k].1,aI j.params[k].2]):=fun c l=>by
           grind
          obtain⟨x0,x1,x2,rfl⟩:∃ x0 x1 x2,x=[x0,x1,x2]:=by
           match x,au with
           | [x0,x1,x2],_=>simp
          have ag:0<=x0/\x0<128:=by
           obtain⟨l,el,hl,hr⟩:=a2.ts _ av;rw[a1]at hl
           match l,hl with
           | [y],_ =>
            have:=hr y zSp;simp[pad]at el;have:=hc.ts.ns;omega
          have w8:qm.wrap x0=x0:=zWr;by_cases hq:x0=j.params[k].2
          .have w9:qm.wrap j.params[k].2=j.params[k].2:=by grind
           simp[go_sem,f5,f9,f76,hi,a3,a4,w9,hq];refine fW (yb true 43 n).toP (wkR n true 43) ?_;refine⟨i,aq,al,zS1 f0,zS1 f1,zS1 f5,zS1 f54,zS1 f55,zS1 f56,zS1 f9,zS1 f76,?_,?_,?_⟩
           .grind [qK]
           .grind [qK,qI,qH]
           grind
          .have af:w7 j.params[k].2 kk=false:=by
            unfold w7;rw[<-Bool.not_eq_true,qY]
            grind
           rw[af]at I;simp only[Bool.false_eq_true,if_false]at I;subst I;simp[go_sem,f5,f9,f76,hi,a3,a4,w8,hq];refine aC (yb false 43 n) (wkR n false 43) ?_;simp[go_sem];exact .hf _ (yF _ _)
         .have aw:w7 j.params[k].2 kk=true:=by
           grind [w7,qY,List.mem_iff_getElem?,qj]
          simp_all[go_sem,if_pos,aM]
       .rw [if_neg a1]at I
        subst I;simp[go_sem,e5,a1];refine aC (yb false 42 n) (wkR n false 42) ?_;simp[go_sem];exact .hf _ (yF _ _)
   .rw [if_neg C]at P
    subst P;refine qi.tail 19 zKr ?_;simp[go_sem,a0,a5,C];refine aC (yb false 45 n) (wkR n false 45) ?_;simp[go_sem];exact .hf _ (yF _ _)
theorem X3{lo sz mu av xs}(h:OwnF lo mu sz av xs)(w:ja sz xs)(hf:∀ r,r∈xs->∀ c,c∈r->HF c):Rd (cutM (fun i=>decide (lo<=i)) mu 0) av (.lst false xs):=by
 obtain⟨g,j,o⟩:=h;refine Own.rd (sz:=sz) ?_ w hf;rcases g with rfl|⟨b,rfl,l⟩
 .exact .inl rfl
 .refine .inr ⟨b,rfl,?_⟩
  rw[jy,l];simp[j b _ _ _ rfl]
theorem qlL{c s n g}(h:uM c s n = .ok g):g=none:=by
 have j:∀(ks:List Nd)(i:List (dA×Int))(g:Option Kd),zZ c s n.pos i ks = .ok g->g=none:=by
  intro ks;induction ks with
  |nil=>grind [zZ]
  |cons k ks l =>
   intro i g h;cases i with
   |nil=>grind [zZ]
   |cons p i =>
    grind [zZ,absurd]
 unfold uM at h;split at h
 .grind
 grind
theorem appKo{mu lo s xs k K}(o:OwnF lo mu 2 s (xs.map cKo))(t:xs.length<=100000)(C:∀ av mu',OwnF lo mu' 2 av ((xs++[k]).map cKo)->(∀ i,i<lo->mu'[i]?=mu[i]?)->K av mu') :
  qu qd mu #[226,226] s (.lst true [cKo k]) K:=by
 have g:∀ l:List (Option Kd),qS 2 (l.map cKo):=fun l r p=>by
  obtain⟨n,_,rfl⟩:=qn.1 p;exact Xs n
 refine qu.ownF (lo:=lo) (e:=139) (sz:=2) (bt:=16) (zv := .agg [aI 0,.sc (.map none)]) (xs:=xs.map cKo) (ys:=[cKo k]) zSi zSi zSi rfl rfl zOm zOm o (by simp[qy]) (g xs) (g [k]) zSo ?_
 grind
theorem X4(c)(hc:okCk c):∀ m n,szN n<=m->WfN n->∀ s,ScOk c.ts.sS.length s->∀ inn,qP qd 76 [eCk c,aSc s,eNd n,aB inn] (endK (exam c s inn n))
 | 0,n,hm,_,_,_,_=>by obtain⟨op,nm,i,ks,p⟩:=n;simp[szN]at hm
 |m+1,n,hm,hw,s,hs,inn=>by
  have ih:∀ k,k∈n.sD->∀ J,ScOk c.ts.sS.length J->∀ T,qP qd 76 [eCk c,aSc J,eNd k,aB T] (endK (exam c J T k)):=fun k hk J ae T =>
   X4 c hc m k (zW1 (qZ hk)) (hw.kid hk) J ae T
  refine za.of_sound ?_;refine qSW call76 func76 rfl {} ?_;generalize g:exam c s inn n=E;rw[jU]at g;have a6:=nI c hc n;simp[go_sem];by_cases hT:(inn&&yZ c n.op n.name)=true
  .rw [if_pos hT]at g
   subst g;rw[qB]at hT;obtain⟨rfl,hT⟩:=hT;rw[hT]at a6;refine qi.tail 9 zKr ?_;simp[go_sem];refine fW a6 (.zk (je c) (.zk (qC n) .nil)) ?_;refine aC (yb false 46 n) (wkR n false 46) ?_;simp[go_sem];exact .hf _ (yF _ _)
  rw[if_neg hT]at g;have af:=wC c hc s n;have a3:=fun h=>callU c hc s hs n hw h (fun k hk=>ih k hk s hs true)
  have a7:WKs [eCk c,aSc s,eNd n] [eCk c,aSc s,eNd n] := .zk (je c) (.zk (wo s) (.zk (qC n) .nil));have a0:∀(J:Scp)(k:Nd)(b:Bool),WKs [eCk c,aSc J,eNd k,aB b] [eCk c,aSc J,eNd k,aB b]:=fun J k b => .zk (je c) (.zk (wo J) (.zk (qC k) (.zs .nil)))
  have a4:n.op=15\/n.op=45\/n.op=46->∃ a f,n.sD=[a,f]/\kd a.op=101:=fun ho=>by
   have I:=hw.shape;have e:shp n.op n.sD.length=some [101,102]:=by
    unfold shp;rw[zIn,zIn,zIn,if_pos zOm]
   rw[e]at I;simp only[qp]at I
   match hk:n.sD,I with
   | [a,f],I=>grind
   | [],I=>simp at I
   | [_],I=>simp at I
   |_ :: _ :: _ :: _,I=>simp at I
  cases inn
  case' false =>
   refine fD ?_;refine fW (yb true 46 n).toP (wkR n true 46) ?_
  case' true =>
   have ay:yZ c n.op n.name=false:=zUs hT;rw[ay]at a6;refine fD ?_;refine fW a6 (.zk (je c) (.zk (qC n) .nil)) ?_;refine fW (yb true 46 n).toP (wkR n true 46) ?_
  all_goals
   by_cases h1:n.op=1
   .rw [if_pos h1]at g
    rw[g]at af;simp[go_sem,h1];cases E with
    |error e =>
     refine aC af a7 ?_;simp[go_sem];exact .hf _ (yF _ _)
    |ok ko =>
     refine t7 af.toP a7 ?_;cases ko with
     |none=>simp[go_sem];exact .hf _ hfKn
     |some k=>simp[go_sem];exact .hf _ (hfK2 _ _)
   rw[if_neg h1]at g;by_cases h47:n.op=47
   .rw [if_pos h47]at g
    have g:uM c s n=E:=g;have a3:=a3 h47;rw[g]at a3;simp[go_sem,h47];cases E with
    |error e =>
     refine aC a3 a7 ?_;simp[go_sem];exact .hf _ (yF _ _)
    |ok ko =>
     obtain rfl:=qlL g;refine fW a3.toP a7 ?_;exact .hf _ hfKn
   rw[if_neg h47]at g;by_cases hb:n.op=15\/n.op=45\/n.op=46
   .rw [if_pos hb]at g
    obtain⟨a,f,a1,ha⟩:=a4 hb;rw[a1]at g;have an:∀ b r,exam c s b a=r->qP qd 76 [eCk c,aSc s,eNd a,aB b] (endK r):=fun b r h=>h ▸ ih a (by rw[a1];simp) s hs b
    have az:∀ J,ScOk c.ts.sS.length J->∀ b r,exam c J b f=r->qP qd 76 [eCk c,aSc J,eNd f,aB b] (endK r):=fun J ae b r h=>h ▸ ih f (by rw[a1];simp) J ae b
    have aa:=jI hc (szN a) a s;have ao:=hw.kid (k:=a) (by rw[a1];simp);rcases hb with h|h|h
    all_goals
     simp[go_sem,h,a1];simp only[h,yR,zl]at g;simp at g;split at g
     .rename_i e hx
      have hi:=an _ _ hx;subst g;refine aC hi (a0 _ _ _) ?_;simp[go_sem];exact .hf _ (yF _ _)
     .rename_i hx
      obtain⟨q,hq,_⟩:=aa _ _ (qk _) ao hs hx ha;exact absurd hq zSp
     .rename_i k hx
      have hi:=an _ _ hx;obtain⟨q,hq,b0⟩:=aa _ _ (qk _) ao hs hx ha;simp only[qp]at hq;subst hq;refine t7 hi.toP (a0 _ _ _) ?_;by_cases a8:k.ar=1
      .rw [if_pos a8]at g
       obtain⟨ka,kt⟩:=k;obtain rfl:ka=1:=a8;simp[go_sem];refine fW (yb true 42 n).toP (wkR n true 42) ?_;have b4:ScOk c.ts.sS.length ((n.name,⟨1,kt⟩) :: s):=fun v P=>by
        rcases qx.1 P with rfl|P
        .exact ⟨b0,rfl⟩
        .exact hs v P
       have aq:=az _ b4;refine qi.tail 12 zKr ?_;simp[go_sem,a1];split at g
       .rename_i e a2
        split at a2
        .rename_i e' ag
         simp only[Except.error.injEq]at a2;subst a2;subst g;have ah:=aq _ _ ag;refine aC ah (a0 ((n.name,⟨1,kt⟩) :: s) _ _) ?_;simp[go_sem];exact .hf _ (yF _ _)
        grind
       .rename_i l a2
        split at a2
        .exact absurd a2 zSp
        .rename_i a' ag
         have ah:=aq _ _ ag;subst g;refine fW ah.toP (a0 ((n.name,⟨1,kt⟩) :: s) _ _) ?_;exact .hf _ (hfK2 _ _)
      .rw [if_neg a8]at g
       subst g;simp[go_sem,a8];refine aC (yb false 42 n) (wkR n false 42) ?_;simp[go_sem];exact .hf _ (yF _ _)
   .rw [if_neg hb]at g
    simp only[not_or]at hb;obtain⟨b1,b2,b3⟩:=hb;simp[go_sem,h1,h47,b1,b2,b3];have b5:=hw.len;generalize hB:(_||decide (n.op=12)||decide (n.op=13))=B at g;by_cases ai:n.op=12
    case' pos=>simp[go_sem,ai]
    case' neg =>
     by_cases aj:n.op=13
     case' pos=>simp[go_sem,aj]
     case' neg=>simp[go_sem,ai,aj]
    all_goals
     refine aP n.sD.length (fun k U=>∃ C:List (Option Kd),C.length=k/\U.tm 0=eCk c/\U.tm 1=aSc s/\U.tm 3=aB B/\U.tm 6 = .ip (cNd n)/\U.tm 8 = .ptr 0 0/\U.tm 79=lNd n.sD/\U.tm 80=aI n.sD.length/\U.tm 81=aI k/\U.mu[0]?=some (.arr [aI 0,.sc (.map none)])/\OwnF 1 U.mu 2 (U.tm 10) (C.map cKo) /\
      zl c s B n.sD=(match zl c s B (n.sD.drop k) with | .error e => .error e | .ok l => .ok (C++l))) ?_ ?_
     .refine ⟨[],rfl,zSi,zSi,?_,zSi,zSi,zSi,zSi,zSi,zSi,?_,?_⟩
      .rw [<-hB];simp[go_sem,ai];try simp[aj]
      .simp [go_sem];exact OwnF.nil zSp
      .simp only[List.drop_zero,List.nil_append]
       cases zl c s B n.sD<;>rfl
     .rintro k U hk ⟨C,hl,e0,e1,e3,e6,e8,au,ak,al,m0,ho,o⟩
      by_cases a5:k=n.sD.length
      .rw [a5,zY]at o
       simp only[zl,zV]at o;rw[o]at g;simp only at g;simp[go_sem,e0,e6,ak,al,a5];have b6:ApOk n.op C:=(Xx hc.ts.ns hw (by rw[hl,a5]) (fun i k' a hi ha b7=>jI hc (szN k') k' s B a (qk _) (hw.kid (qX hi)) hs ((Yq o).2 i k' a hi ha) b7)).1;have ab:=qjD c hc false n C b6;rw[g]at ab;have aw:∀ r,r∈C.map cKo->∀ c,c∈r->HF c:=fun r hr c b8=>by
        obtain⟨q,_,rfl⟩:=qn.1 hr;exact n7 q c b8
       have b9:ja 2 (C.map cKo):=fun r hr=>by
        obtain⟨q,_,rfl⟩:=qn.1 hr;exact(Xs q).1
       have g0:(cutM (fun i=>!decide (1<=i)) U.mu 0)[0]?=some (.arr [aI 0,.sc (.map none)]):=by rw[jy,m0];simp
       refine aA (fU (args1:=[eCk c,eNd n,.lst false (C.map cKo)]) (fun j=>decide (1<=j)) ⟨.inl rfl,.inl rfl,.inr (X3 ho b9 aw),trivial⟩ (ab.toSound _ (.zk (je c) (.zk (qC n) (.zk (HF.lst aw) .nil))))) ?_ ?_
       .rintro r m ⟨P,rfl⟩
        have P:AEnd.ret r=endK E:=P;cases E with
        |error e=>exact absurd P zSi
        |ok q =>
         simp[go_sem]at P;subst P;generalize cutM (fun i=>!decide (1<=i)) U.mu 0=M at g0;have bc:0<M.length:=(qj.1 g0).1;have ad:∀ c,(M.set 0 c)[0]?=some c:=fun c=>qH bc
         cases q with
         |none=>simp[go_sem,e8,g0,ad];exact .hf _ hfKn
         |some k=>simp[go_sem,e8,g0,ad];exact .hf _ (hfK2 _ _)
       .rintro r m ⟨P,rfl⟩
        have P:AEnd.pan r=endK E:=P;cases E with
        |ok q=>exact absurd P zSi
        |error e =>
         simp[go_sem]at P;subst P;simp[go_sem];exact .hf _ (yF _ _)
      .have a9:k<n.sD.length:=by omega
       have w1:=zWk k;rw[ze a9]at o;simp only[zl]at o;have hi:=ih n.sD[k] (qv a9) s hs B;simp[go_sem,e0,e1,e3,au,ak,al,a9];cases hx:exam c s B n.sD[k] with
       |error e =>
        rw[hx]at hi o;simp only at o;rw[o]at g;simp only at g;subst g;refine aC hi (a0 s n.sD[k] B) ?_;simp[go_sem];exact .hf _ (yF _ _)
       |ok ko =>
        rw[hx]at hi o;simp only at o;refine t7 hi.toP (a0 s n.sD[k] B) ?_;have ax:=Xs ko;rw[qY]at ax;simp[go_sem];rw[if_pos ax];simp[go_sem];refine appKo (xs:=C) (k:=ko) (lo:=1) ⟨J0 ho.1 _,ho.2.1,by have:=ho.2.2;simp⟩ zOm fun t R be bg=>?_
        simp[go_sem,al,w1];refine⟨a9,aM ?_⟩;refine⟨C++[ko],zP1 hl,zS1 e0,zS1 e1,zS1 e3,zS1 e6,zS1 e8,zS1 au,zS1 ak,zSi,?_,zVs be,?_⟩
        .simp only[qK]
         rw[bg 0 zOm,qI (zW1 ho.2.2)];exact m0
        .rw [o]
         cases zl c s B (n.sD.drop (k+1)) with
         |error e=>rfl
         |ok l=>simp
end Y13
namespace Y14
open YF P1 P2 Y1 Y2 Y9 Y10 Y12 Y13
structure Ze (ns:Nat) (env:List (dA×Int)):Prop where
 len:env.length<=1000000
 r:∀ p,p∈env->0<=p.2/\p.2<ns
theorem UG{ns env}(h:Ze ns env):ScOk ns (yg env):=by
 have:∀(l:List (dA×Int))(s:Scp),(∀ p,p∈l->0<=p.2/\p.2<(ns:Int))->ScOk ns s->ScOk ns (l.foldl (fun s p=>(p.1,kOf [p.2]) :: s) s):=by
  intro l;induction l with
  |nil=>intro s _ i;exact i
  |cons a l t =>
   intro s j i;refine t _ (fun p C=>j p (qU _ C)) fun v g=>?_
   rcases qx.1 g with rfl|g
   .exact ⟨Xv zSp zSp (fun x o=>by rw[qQ]at o;subst o;exact j a (zj ..)),rfl⟩
   .exact i v g
 exact this env [] h.r fun v g=>absurd g qN
theorem qlM(c)(l:okCk c)(n)(p:WfN n)(env)(j:Ze c.ts.sS.length env) :
  qP qd 121 [.ip (cNd n),.ip [eCk c],.ip [lPm env]] (if 30<=n.op then (match exam c (yg env) false n with | .ok _ => .ret (.tup []) | .error e => .pan (vB e.1 e.2)) else .pan (vB 43 n.pos)):=by
 refine za.of_sound ?_;refine qSW call121 func121 rfl {} ?_;have i:=X4 c l (szN n) n (qk _) p (yg env) (UG j) false;have g:WKs [eCk c,aSc (yg env),eNd n,aB false] [eCk c,aSc (yg env),eNd n,aB false] := .zk (je c) (.zk (wo _) (.zk (qC n) (.zs .nil)));by_cases h:30<=n.op
 .rw [if_pos h]
  simp[go_sem,h];refine fW (yb true 43 n).toP (wkR n true 43) ?_;refine qi.tail 4 zKr ?_;simp[go_sem];refine fW (nW _ l.ts.ns env j.len j.r) (.zk (vD env) .nil) ?_;cases o:exam c (yg env) false n with
  |error e =>
   rw[o]at i;refine aC i g ?_;simp[go_sem];exact .hf _ (yF _ _)
  |ok k =>
   rw[o]at i;refine fW i.toP g ?_;exact .hf _ (HF.tup zSp)
 .rw [if_neg h]
  simp[go_sem,h];refine aC (yb false 43 n) (wkR n false 43) ?_;simp[go_sem];exact .hf _ (yF _ _)
theorem qlN(c)(i:okCk c)(n)(P:WfN n)(env)(R:Ze c.ts.sS.length env):qh qd 48 [eCk c,lPm env,eNd n] (.agg [aI (jF c env n).1,aI (jF c env n).2]):=by
 refine qP.toP ?_;refine za.of_sound ?_;refine qSW call48 func48 rfl {} ?_;simp[go_sem];have o:WKs [.ip (cNd n),.ip [eCk c],.ip [lPm env]] [.ip (cNd n),.ip [eCk c],.ip [lPm env]] := .zk (HF.ip (jE n)) (.zk (HF.ip (by simp;exact je c)) (.zk (HF.ip (by simp;exact vD env)) .nil));have T:=(qlM c i n P env R).toSound ([.arr [aI 0,aI 0]]++[.dead]) o;refine aA (g9 (mu:=[.arr [aI 0,aI 0]]) T ?_) ?_ ?_
 .rintro v m ⟨g,_⟩
  have g:AEnd.pan v=_:=g;split at g
  .split at g
   .exact absurd g zSp
   .cases g;exact⟨_,_,rfl⟩
  .cases g;exact⟨_,_,rfl⟩
 .rintro r m ⟨U,x,⟨l,rfl⟩,⟨J,⟨g,rfl⟩,j⟩|⟨t,p,⟨g,rfl⟩,j⟩⟩
  .have g:AEnd.ret J=_:=g
   cases j;have hf:jF c env n=(0,0):=by
    unfold jF dgOf;split at g
    .rename_i h
     rw[if_pos h];split at g
     .rename_i C;first | (rw[C];done)|rfl
     .cases g
    .cases g
   rw[hf];simp[go_sem];exact .hf _ (HF.agg fun c i=>by simp at i;rcases i with rfl|rfl<;>exact HF.sc _)
  .have g:AEnd.pan (vB t p)=_:=g
   cases j;have hf:jF c env n=(t,p):=by
    unfold jF dgOf;split at g
    .rename_i h
     rw[if_pos h];split at g
     .cases g
     .rename_i e C;(try rw[C]);cases g;rfl
    .rename_i h
     rw[if_neg h];cases g;rfl
   rw[hf];simp[go_sem];exact .hf _ (HF.agg fun c i=>by simp at i;rcases i with rfl|rfl<;>exact HF.sc _)
 .rintro r m ⟨U,x,⟨l,rfl⟩,⟨J,⟨g,rfl⟩,j⟩|⟨t,p,⟨g,rfl⟩,j⟩⟩<;>cases j
theorem m9(ts)(h:okTS ts)(i:∀ p,p∈ts.sT->WfN p.body)(n)(j:WfN n)(env)(l:Ze ts.sS.length env):qh qd 15 [eTS ts,lPm env,eNd n] (.agg [aI (jd ts env n).1,aI (jd ts env n).2]):=by
 refine qSU call15 func15 rfl ?_;refine fD ?_;refine fW (nV ts h (fun p o=>(i p o).small) _ (qk _)) (.zk (zA ts) (.zs .nil)) ?_;refine fW (qlN _ (uo h (qk _)) n j env l) (.zk (je _) (.zk (vD env) (.zk (qC n) .nil))) ?_;exact .hf _ (HF.agg fun c g=>by simp at g;rcases g with rfl|rfl<;>exact HF.sc _)
end Y14
namespace Y15
open Y1
section
variable {C:Type}
def repL(g:C->C->Bool)(l:List C):List Bool:=(qr l.length).map fun i=>match l[i]? with|some x=>(l.take i).any fun y=>g x y|none=>false
theorem Qf(g)(l:List C):(repL g l).length=l.length:=by simp[repL]
theorem qaA(g)(l:List C){i}(h):(repL g l)[i]?=some ((l.take i).any fun y=>g l[i] y):=by
 simp[repL,h]
@[go_sem] theorem put_cFa(a b c d e f s n):putCells [a,b,c,d,e,f] 0 (s :: cNd n)=s :: cNd n:=by
 rw[jc];simp[putCells]
end
end Y15
namespace Y16
open P1 Y1 Y9 Y15
abbrev cDg(d:Dg):List AV:=[aI d.1,aI d.2]
def dups(l:List Bool):List Dg:=(l.filter id).map fun _=>(41,0)
def repB{C:Type}(g:C->C->Bool)(l:List C)(i:Nat):List Bool:=((repL g l).take (i+1)).drop i
def rp(d:Dg):List Dg:=if d.1=0 then [] else [d]
def ue(ts:TS)(i:Nat):List Dg:=match ts.sT[i]? with
 |some p=>dups (repB (fun x y:Pd=>decide (x.name=y.name)) ts.sT i)++(dups (repL (fun x y:dA×Int=>decide (x.1=y.1)) p.params)++rp (jF (mkCk ts i) p.params p.body))
 |none=>[]
def Qg(ts:TS)(g:List (dA×Nd))(i:Nat):List Dg:=match g[i]? with
 |some f=>dups (repB (fun x y:dA×Nd=>decide (x.1=y.1)) g i)++rp (jd ts [] f.2)
 |none=>[]
def uf(ts:TS):List Dg:=
 dups (repL (fun x y:dA×Bool=>decide (x.1=y.1)) ts.sS)++(dups (repL (fun x y:Fld=>decide (x.name=y.name)&&decide (x.sS=y.sS)) ts.sA) ++
  ((qr ts.sT.length).flatMap (ue ts)++(qr ts.sP.length).flatMap (Qg ts ts.sP)))
abbrev lDg(l:List Dg):AV := .lst false (l.map cDg)
theorem Qh(l):(dups l).length<=l.length:=by
 grind [dups,zX,List.length_filter_le]
theorem qaB(d):(rp d).length<=1:=by unfold rp;split<;>simp
theorem X5(f:Nat->List Dg)(hf:∀ i,(f i).length<=10):∀ k,((qr k).flatMap f).length<=10*k
 | 0=>zSp
 |k+1=>by
  rw[List.range_succ,List.flatMap_append,zf];have:=X5 f hf k;have:=hf k;simp only[List.flatMap_cons,List.flatMap_nil,zV];omega
theorem qaC{C}(g)(l:List C)(i):(repB g l i).length<=1:=by
 grind [repB,List.length_drop,vO]
theorem qaD{ts}(h:okTS ts)(i):(ue ts i).length<=10:=by
 unfold ue;split
 .rename_i p g
  have j:=(h.pl p (qX g)).1
  grind [Qh,repB,decide,qaC,repL,Qf,qaB]
 .simp
theorem qlO(ts g i):(Qg ts g i).length<=10:=by
 grind [Qg,Qh,repB,decide,qaC,qaB,jd]
end Y16
namespace YU
open Go.RowKit
end YU
namespace YV
def cmpI(x y:Int):Int:=if x<y then -1 else if y<x then 1 else 0
def cmpL:List Int->List Int->Int
 | [],[]=>0
 | [],_ :: _ => -1
 |_ :: _,[]=>1
 |x :: a,y :: b=>if cmpI x y=0 then cmpL a b else cmpI x y
theorem qaE:∀ a b,cmpL a b<0↔a<b
 | [],[]=>by simp[cmpL]
 | [],_ :: _=>by simp[cmpL]
 |_ :: _,[]=>by simp[cmpL]
 |x :: a,y :: b=>by
  rw[List.cons_lt_cons_iff,<-qaE a b];simp only[cmpL,cmpI];by_cases g:x<y
  .simp [g]
  .by_cases i:y<x
   .have:x≠y:=by omega
    simp[g,i,this]
   .have:x=y:=by omega
    simp[this]
def insL(x:List Int):List (List Int)->List (List Int)
 | []=>[x]
 |y :: l=>if y<x then y :: insL x l else x :: y :: l
def srt(l:List (List Int)):List (List Int):=l.foldr insL []
theorem X6(x):∀ l,(insL x l).Perm (x :: l)
 | [] => .refl _
 |y :: l=>by
  simp only[insL];split
  .exact ((X6 x l).cons y).trans (.swap x y l)
  .exact .refl _
theorem qaF:∀ l,(srt l).Perm l
 | [] => .refl _
 |x :: l=>(X6 x (srt l)).trans ((qaF l).cons x)
theorem qaG(x):∀ l,l.Pairwise (·<=·)->(insL x l).Pairwise (·<=·)
 | [],_=>by simp[insL]
 |y :: l,h=>by
  rw[wP]at h;simp only[insL];split
  .rename_i g
   rw[wP];refine⟨fun z i=>?_,qaG x l h.2⟩;rcases qx.1 ((X6 x l).mem_iff.1 i) with rfl|i
   .exact List.le_of_lt g
   .exact h.1 z i
  .rename_i g
   have j:x<=y:=List.not_lt.1 g;rw[wP,wP];refine⟨fun z i=>?_,h⟩;rcases qx.1 i with rfl|i
   .exact j
   .exact List.le_trans j (h.1 z i)
theorem qaH:∀ l,(srt l).Pairwise (·<=·)
 | [] => .nil
 |x :: l=>qaG x (srt l) (qaH l)
theorem Uo{l g}(i:g.Perm l)(j:g.Pairwise fun x y=>¬cmpL y x<0):g=srt l:=by
 refine List.Perm.eq_of_pairwise (le:=(·<=·)) (fun a b _ _ o p=>List.le_antisymm o p) (j.imp fun h=>?_) (qaH l) (i.trans (qaF l).symm);rw[qaE]at h;exact List.not_lt.1 h
end YV
namespace YW
open YF P1 P2 Y1 Y2 Y3 Y6 Y7 Y9 Y10 Y11 Y13 Y14 YV
theorem cY{ns k}(h:okKd ns k)(I:ns<=4):k.ts.length<=64:=by
 have o:∀ t,t∈k.ts->t∈([0,1,2,3]:List Int).flatMap fun a=>([0,1,2,3]:List Int).flatMap fun b=>([0,1,2,3]:List Int).map fun c=>[a,b,c]:=fun t J=>by
  obtain⟨l,rfl,j,i⟩:=h.ts t J;have P:=h.ar.2;have g:∀ x:Int,0<=x->x<ns->x∈([0,1,2,3]:List Int):=fun x p C=>zSo
  match l,j,i with
  | [],j,i=>simp[pad]
  | [a],j,i =>
   have:=g a (i a zSp).1 (i a zSp).2;simp only[wO,qn];exact⟨a,this,0,zSp,0,zSp,by simp[pad]⟩
  | [a,b],j,i =>
   have p:=g a (i a zSp).1 (i a zSp).2;have C:=g b (i b zSp).1 (i b zSp).2;simp only[wO,qn];exact⟨a,p,b,C,0,zSp,by simp[pad]⟩
  | [a,b,c],j,i =>
   have p:=g a (i a zSp).1 (i a zSp).2;have C:=g b (i b zSp).1 (i b zSp).2;have R:=g c (i c zSp).1 (i c zSp).2;simp only[wO,qn];exact⟨a,p,b,C,c,R,by simp[pad]⟩
  |_ :: _ :: _ :: _ :: _,j,i=>simp at j;omega
 have:=ji h.nd o;simpa using this
theorem cH{ns k}(h:okKd ns k)(o:ns<=4){t:Tp}(p:t∈k.ts):∀ x,x∈t->0<=x/\x<128:=fun x j=>by
 obtain⟨l,rfl,i,g⟩:=h.ts t p;have C:=h.ar.2
 match l,i,g with
 | [],i,g=>simp[pad]at j;omega
 | [a],i,g =>
  have:=g a zSp;simp[pad]at j;omega
 | [a,b],i,g =>
  have:=g a zSp;have:=g b zSp;simp[pad]at j;omega
 | [a,b,c],i,g =>
  have:=g a zSp;have:=g b zSp;have:=g c zSp;simp[pad]at j;omega
 |_ :: _ :: _ :: _ :: _,i,g=>simp at i;omega
theorem qlP{n}(i:WfN n)(h:¬ 20<=n.op):kd n.op=101:=by
 have g:=i.shape;refine qjL ?_;unfold shp at g
 repeat' split at g
 all_goals first|omega|exact absurd g zSp
theorem Yz(c s inn){ks}(i:∀ k,k∈ks->∀ e,exam c s inn k = .error e->e.1≠0){e}(h:zl c s inn ks = .error e):e.1≠0:=by
 induction ks with
 |nil=>simp[zl]at h
 |cons k ks j =>
  simp only[zl]at h;split at h
  .rename_i l g
   cases h;exact i k (zj ..) _ g
  .split at h
   .rename_i l g
    cases h;exact j (fun k o=>i k (qU _ o)) g
   .cases h
theorem UH(c s pos){ks}(g:∀ k,k∈ks->∀ e,exam c s true k = .error e->e.1≠0):∀{ps e},zZ c s pos ps ks = .error e->e.1≠0:=by
 induction ks with
 |nil=>intro ps e h;cases ps<;>simp[zZ]at h
 |cons k ks i =>
  intro ps e h;cases ps with
  |nil=>simp[zZ]at h
  |cons p ps =>
   simp only[zZ]at h;split at h
   .rename_i o j
    cases h;exact g k (zj ..) _ j
   .cases h;simp
   .split at h
    .split at h
     .exact i (fun k l=>g k (qU _ l)) h
     .cases h;simp
    .cases h;simp
theorem Zf(c):∀ m n s inn e,szN n<=m->exam c s inn n = .error e->e.1≠0
 | 0,n,_,_,_,o,_=>by obtain⟨op,nm,i,ks,p⟩:=n;simp[szN]at o
 |m+1,n,s,inn,e,o,h=>by
  have j:∀ k,k∈n.sD->∀ s inn e,exam c s inn k = .error e->e.1≠0:=fun k l s inn e g=>Zf c m k s inn e (zW1 (qZ l)) g
  rw[jU]at h;split at h
  .cases h;simp
  split at h
  .unfold yG at h
   split at h
   .cases h
   .split at h<;>first | (cases h;simp)|cases h
  split at h
  .split at h
   .split at h
    .cases h;simp
    .split at h
     .cases h;simp
     .split at h
      .exact UH c s n.pos (fun k l e g=>j k l s true e g) h
      .cases h;simp
   .cases h;simp
  split at h
  .revert h j
   match n.sD with
   | []=>intro j h;simp[yR]at h
   |k :: ks =>
    intro j h;simp only[yR]at h;split at h
    .rename_i t g
     cases h;exact j k (zj ..) _ _ _ g
    .cases h;simp
    .split at h
     .split at h
      .rename_i t g
       cases h;exact Yz c _ _ (fun k l e g=>j k (qU _ l) _ _ e g) g
      .cases h
     .cases h;simp
  .split at h
   .rename_i t g
    cases h;exact Yz c _ _ (fun k l e g=>j k l _ _ e g) g
   .unfold zz at h
    repeat' split at h
    all_goals first | (cases h;done) | (cases h;simp)
theorem qlQ(ts)(h:okTS ts)(I:∀ p,p∈ts.sT->WfN p.body)(n)(J:WfN n)(env)(i:Ze ts.sS.length env){mu b}(C:mu[b]?=some (.arr (cKo none))) :
  qz qd 75 [.ip (cTS ts),.ip [lPm env],.ip (cNd n),.ptr b 0] mu fun e m=>match exam (mkCk ts ts.sT.length) (yg env) false n with
   | .ok j=>e = .ret (.tup [])/\m=mu.set b (.arr (cKo j))
   | .error d=>e = .pan (vB d.1 d.2)/\m=mu:=by
 refine qSW call75 func75 rfl {} ?_;have l:=uo h (qk ts.sT.length);have o:=X4 (mkCk ts ts.sT.length) l (szN n) n (qk _) J (yg env) (UG i) false;generalize T:exam (mkCk ts ts.sT.length) (yg env) false n=E at o;have P:b<mu.length:=(qj.1 C).1;simp[go_sem];refine qi.tail 8 zKr ?_;simp[go_sem];refine fW (nV ts h (fun p R=>(I p R).small) _ (qk _)) (.zk (zA ts) (.zs .nil)) ?_;refine fW (nW _ h.ns env i.len i.r) (.zk (vD env) .nil) ?_;have g:WKs [eCk (mkCk ts ts.sT.length),aSc (yg env),eNd n,aB false] [eCk (mkCk ts ts.sT.length),aSc (yg env),eNd n,aB false] := .zk (je _) (.zk (wo _) (.zk (qC n) (.zs .nil)));cases E with
 |error d =>
  refine aC o g ?_;simp[go_sem]
 |ok j =>
  refine t7 o.toP g ?_;have t:mu[b]?=some (.arr [aI 0,.sc (.map none)]):=C;cases j<;>simp[go_sem,t,cKo]
def rowT(k:Kd)(t:Tp):List Int:=t.take k.ar.toNat
def X7(k:Kd):List (List Int):=srt (k.ts.map (rowT k))
def Zg(ts:TS)(env:List (dA×Int))(n:Nd):List (List Int)×Int:=
 if 20<=n.op then ([],43) else
 match exam (mkCk ts ts.sT.length) (yg env) false n with
 | .error d=>([],d.1)
 | .ok (some k)=>(X7 k,0)
 | .ok none=>([],0)
theorem qaI(mu e):Rd mu (.tup [.lst true [],aI e]) (.tup [lL [],aI e]) := .tup _ _ rfl fun k x y g i=>by
 match k,g,i with
 | 0,g,i=>simp at g i;subst g;subst i;exact .wk _ true _ (.hf _ (HF.lst fun r j=>absurd j qN))
 | 1,g,i=>simp at g i;subst g;subst i;exact .zsc _
 |k+2,g,i=>simp at g
theorem qlR{P x'}(g){lo mu}{t j e sz bt:Nat}{s x xs ys zv K}(hs:qD P t=some (e,sz,bt))(p:(qD P j).isSome=true)(hz:qA P e=some zv)
  (C:zv.cells.length=sz) (I:zv.cells.all AV.one=true) (J:sz≠0) (hb:bt<=16384) (R:Rd (cutM g mu 0) x x') (T:OwnF lo (cutM (fun i=>!g i) mu 0) sz s xs) (hx:qy (cutM (fun i=>!g i) mu 0) x'=some ys) (wx:qS sz xs) (wy:qS sz ys) (hl:xs.length+ys.length<=4294967296) (U:ys≠[])
  (k:∀ b mu',OwnF lo mu' sz (.sl b sz 0 (xs++ys).length) (xs++ys)->(∀ i,i<lo->mu'[i]?=(cutM (fun i=>!g i) mu 0)[i]?)->K (.sl b sz 0 (xs++ys).length) mu'):qu P mu #[t,j] s x K:=by
 refine .inr (.inl ⟨g,x',R,?_⟩);generalize cutM (fun i=>!g i) mu 0=mu at *
 obtain⟨T,a0,a2⟩:=T;refine⟨t,j,e,sz,bt,ys,rfl,hs,p,⟨zv,hz,C,I⟩,J,hb,hx,wy,?_⟩;rcases T with rfl|⟨b,rfl,hc⟩
 .refine .inl ⟨xs,rfl,wx,hl,fun h=>absurd h U,fun h=>?_⟩
  rw[<-zf];refine k _ _ ⟨.inr ⟨mu.length,rfl,zSp⟩,fun b s o l e=>?_,zSo⟩ (fun i hi=>?_)
  .injection e;omega
  .rw [zGa]
 .have a3:=yy wx.ok
  have a4:=a0 _ _ _ _ rfl;refine .inr ⟨b,xs.length,xs.flatten,rfl,hc,zOm,hl,?_⟩;have a1:xs.flatten.take (xs.length*sz)=xs.flatten:=zJ zOm;rw[<-zf];refine k _ _ ⟨.inr ⟨mu.length,rfl,?_⟩,fun b s o l e=>?_,zSo⟩ (fun i hi=>?_)
  .rw [a1,zN zSp];simp
  .injection e;omega
  .rw [qI zSo]
   rw[zGl]
theorem qlS{mu x y}(h:Rd mu x y):Rd mu (.lst true [[x]]) (.lst true [[y]]):=by
 refine .lst true _ _ rfl (fun k a b g i=>?_) (fun k a b g i=>?_)
 .cases k with
  |zero=>simp at g i;subst g;subst i;rfl
  |succ k=>simp at g
 .cases k with
  |zero=>simp at g i;subst g;subst i;exact h
  |succ k=>simp at g
theorem qaJ(f:Nat->List Int)(l:List Nat):qS 1 (l.map fun i=>rL (f i)):=fun r g=>by
 obtain⟨i,_,rfl⟩:=qn.1 g;exact⟨rfl,rfl⟩
theorem qlT{mu av x}(h:Rd mu av x)(e):Rd mu (.tup [av,aI e]) (.tup [x,aI e]) := .tup _ _ rfl fun k x y g i=>by
 match k,g,i with
 | 0,g,i=>simp at g i;subst g;subst i;exact h
 | 1,g,i=>simp at g i;subst g;subst i;exact .zsc _
 |k+2,g,i=>simp at g
theorem qlU{C t:Type}{l:List C}{d}(f:C->t){seen:List Nat}(j:seen.Nodup)(o:∀ i,i∈seen->i<l.length)(g:∀ i,i<l.length->i∈seen):(seen.map fun i=>f (l.getD i d)).Perm (l.map f):=by
 have I:seen.Perm (qr l.length):=by
  rw[List.perm_ext_iff_of_nodup j List.nodup_range];exact fun i=>⟨fun h=>zK.2 (o i h),fun h=>g i (zK.1 h)⟩
 have J:=I.map fun i=>f (l.getD i d)
 have P:((qr l.length).map fun i=>f (l.getD i d))=l.map f:=by
  apply j7;intro i;by_cases p:i<l.length
  .simp [p]
  .simp [p]
 rwa[P]at J
end YW
namespace YX
open YF P1 Y1
structure IV where
 arg:Option Nd
 size:Int
 name:dA
abbrev IEnv:=List (dA×IV)
structure ISt where
 last:Int
 sM:Int
abbrev cIn(ts:TS)(tb:Nat)(s:ISt):List AV:=cTS ts++[.mp tb,aI s.last,aI s.sM]
def nd0:Nd := .mk 0 ⟨#[]⟩ 0 [] 0
abbrev eN0:AV := .agg [aI 0,aS ⟨#[]⟩,aI 0,.lst true [],aI 0]
def payS(n:Int)(s:ISt):ISt:=⟨s.last,s.sM+n⟩
def ZU(env:IEnv)(n:Nd)(s:ISt):Except Dg ((Nd×Int)×ISt):=
 match getK n.name env with
 |none => .ok ((n,1),s)
 |some v=>match v.arg with
  |none => .ok ((.mk n.op v.name n.n n.sD n.pos,1),s)
  |some a=>if s.sM+v.size<=4000 then .ok ((a,v.size),payS v.size s) else .error (2,0)
end YX
namespace Q1
open P2 Y1 Y2 Y6
abbrev aU(x:Int):AV := .sc (.int .u8 x)
theorem qaK(op):qh qd 8 [aI op] (aU (kd op)):=by
 refine qSU call8 func8 rfl ?_;unfold kd;by_cases g:1<=op<;>by_cases i:op<=15<;>by_cases j:20<=op<;>by_cases l:op<=23<;>by_cases o:30<=op<;>by_cases p:op<=51<;>first|omega | (simp[go_sem,g,i,j,l,o,p];exact .zsc _)
def kwL:List dA:=[⟨#[115,111,114,116]⟩,⟨#[111,114,100,101,114,101,100]⟩,⟨#[118,97,114]⟩,⟨#[102,105,101,108,100]⟩,⟨#[112,114,101,100]⟩,⟨#[102,97,99,116]⟩,⟨#[97,108,108]⟩,⟨#[115,111,109,101]⟩,⟨#[110,111]⟩,⟨#[111,110,101]⟩,⟨#[108,111,110,101]⟩,⟨#[97,108,119,97,121,115]⟩,⟨#[101,118,101,110,116,117,97,108,108,121]⟩,⟨#[97,102,116,101,114]⟩,⟨#[117,110,116,105,108]⟩,⟨#[110,111,110,101]⟩,⟨#[117,110,105,118]⟩,⟨#[105,100,101,110]⟩,⟨#[105,110]⟩,⟨#[110,111,116]⟩,⟨#[116,114,117,101]⟩,⟨#[102,97,108,115,101]⟩]
def kwB(s:dA):Bool:=kwL.any fun x=>decide (x=s)
theorem qlV(s):qh qd 279 [aS s] (aB (kwB s)):=by
 refine qSU call279 func279 rfl ?_;have g:kwL.length=22:=rfl;refine aP 22 (fun k U=>U.tm 0=aS s/\U.tm 3 = .lst true (kwL.map fun s=>[aS s])/\U.tm 4=aI k/\U.mu=[]/\∀ j x,j<k->kwL[j]?=some x->x≠s) ?_ ?_
 .refine ⟨zSi,?_,zSi,zSi,fun j x t=>absurd t zOm⟩
  simp[go_sem,kwL]
 .rintro k U hk ⟨J,I,P,R,hI⟩
  unfold kwB;generalize hK:kwL=K at *
  by_cases T:k=22
  .subst T
   have a0:(K.any fun x=>decide (x=s))=false:=by
    rw[List.any_eq_false];intro x p;obtain⟨j,t⟩:=List.mem_iff_getElem?.1 p;simpa using hI j x (by have:=(qj.1 t).1;omega) t
   rw[a0];simp[go_sem,I,P,R,g];exact .zsc _
  .have C:k<K.length:=by omega
   have i:k<22:=zOm;have l:(k:Int)<22:=zOm;have w1:=zWk k;by_cases p:K[k]=s
   .have a1:(K.any fun x=>decide (x=s))=true:=List.any_eq_true.2 ⟨K[k],qv C,zUs p⟩
    rw[a1];simp[go_sem,J,I,P,R,g,i,l,p];exact .zsc _
   .simp [go_sem,J,I,P,R,g,i,l,jS p,w1]
    try refine⟨i,aM ?_⟩
    try refine aM ?_
    refine⟨zS1 J,zS1 I,zSi,zSi,fun j x t o=>?_⟩;by_cases a2:j=k
    .subst a2
     rw[qw C]at o;cases o;exact p
    .exact hI j x zOm o
def bys(l:List Int):dA:=⟨(l.map fun x=>UInt8.ofNat x.toNat).toArray⟩
theorem qlW(l x):bys (l++[x])=bys l++⟨#[UInt8.ofNat x.toNat]⟩:=by
 apply ByteArray.ext;simp[bys]
theorem qaL(l):(bys l).size=l.length:=by simp[bys,ByteArray.size]
def shpV(op:Int)(nk:Nat):AV:=match shp op nk with
 |some l => .tup [aS (bys l),aB true]
 |none => .tup [aS ⟨#[]⟩,aB false]
theorem UI(mu a b):Rd mu (.tup [aS a,aB b]) (.tup [aS a,aB b]) := .hf _ (HF.tup fun c g=>by simp at g;rcases g with rfl|rfl<;>exact HF.sc _)
theorem qlX(nk:Nat)(J:nk<=100000):qh qd 253 [aI 47,aI nk] (shpV 47 nk):=by
 refine qSU call253 func253 rfl ?_;refine aP (min nk 401) (fun k U=>U.tm 1=aI nk/\U.tm 6=aS (bys (qM k 101))/\U.tm 7=aI k) ?_ ?_
 .exact ⟨zSi,by simp[go_sem,bys],zSi⟩
 .rintro k U hk ⟨i,j,e7⟩
  by_cases l:k=min nk 401
  .have P:shpV 47 nk = .tup [aS (bys (qM k 101)),aB true]:=by
    rw[l];rfl
   rw[P];by_cases h1:nk<=k
   .have o:¬k<nk:=by omega
    simp[go_sem,i,j,e7,o];exact UI _ _ _
   .have R:k=401:=by omega
    subst R;have h3:401<nk:=zOm;have T:(401:Int)<nk:=zOm;simp[go_sem,i,j,e7,T];exact UI _ _ _
  .have p:k<nk:=by omega
   have I:k<401:=zOm;have g:(k:Int)<401:=zOm;have w1:=zWk k;have t:(bys (qM k 101)).size+1<=9223372036854775807:=by rw[qaL,List.length_replicate];omega
   have C:bys (qM k 101)++⟨#[101]⟩=bys (qM (k+1) 101):=by
    rw[List.replicate_succ',qlW];rfl
   generalize bys (qM k 101)=B at *
   simp[go_sem,i,j,e7,p,g,t,w1];refine⟨zOm,aM ?_⟩;exact⟨zS1 i,zS1 C,zSi⟩
theorem qlY(op)(nk:Nat)(g:nk<=100000):qh qd 253 [aI op,aI nk] (shpV op nk):=by
 by_cases h47:op=47
 .subst h47;exact qlX nk g
 by_cases o:1<=op/\op<=51
 .have j:op=1\/op=2\/op=3\/op=4\/op=5\/op=6\/op=7\/op=8\/op=9\/op=10\/op=11\/op=12\/op=13\/op=14\/op=15\/op=16\/op=17\/op=18\/op=19\/op=20\/op=21\/op=22\/op=23\/op=24\/op=25\/op=26\/op=27\/op=28\/op=29\/op=30\/op=31\/op=32\/op=33\/op=34\/op=35\/op=36\/op=37\/op=38\/op=39\/op=40\/op=41\/op=42\/op=43\/op=44\/op=45\/op=46\/op=48\/op=49\/op=50\/op=51:=by omega
  rcases j with rfl|rfl|rfl|rfl|rfl|rfl|rfl|rfl|rfl|rfl|rfl|rfl|rfl|rfl|rfl|rfl|rfl|rfl|rfl|rfl|rfl|rfl|rfl|rfl|rfl|rfl|rfl|rfl|rfl|rfl|rfl|rfl|rfl|rfl|rfl|rfl|rfl|rfl|rfl|rfl|rfl|rfl|rfl|rfl|rfl|rfl|rfl|rfl|rfl|rfl
  all_goals
   refine qSV call253 func253 rfl ?_;simp[go_sem,shpV,shp];exact UI _ _ _
 .have i:∀ c:Int,1<=c->c<=51->(op=c)=False:=fun c p t=>eq_false zOm
  have l:shp op nk=none:=by
   unfold shp
   repeat rw[zIn]
  rw[shpV,l];refine qSV call253 func253 rfl ?_;simp[go_sem,i];exact UI _ _ _
end Q1
namespace Q2
open P2 Y1 Q1
def fitB(op:Int)(ks:List Nd):Bool:=decide (shp op ks.length=some (ks.map fun k=>kd k.op))
theorem qlZ(l)(g:∀ x,x∈l->0<=x/\x<256)(i h)(j:i<(bys l).data.size):(((bys l).data[i]).toNat:Int)=l[i]:=by
 have o:=g l[i] (qv h);simp only[bys,List.getElem_toArray,List.getElem_map,UInt8.toNat_ofNat'];omega
theorem ql0{op nk l}(h:shp op nk=some l):∀ x,x∈l->0<=x/\x<256:=by
 unfold shp at h
 repeat' split at h
 all_goals first
  | (cases h;done)
  | (cases h;intro x g;cases g;done)
  | (cases h;intro x g;rw[List.mem_replicate]at g;omega)
  | (cases h;intro x g;simp at g;omega)
theorem X8(op ks)(hk:ks.length<=1000):qh qd 207 [aI op,lNd ks] (aB (fitB op ks)):=by
 have I:=qlY op ks.length zOm;unfold shpV at I;cases o:shp op ks.length with
 |none =>
  simp only[o]at I;have hf:fitB op ks=false:=by simp[fitB,o]
  rw[hf];refine qSU call207 func207 rfl ?_;refine fW I (.zs (.zs .nil)) ?_;exact .zsc _
 |some l =>
  simp only[o]at I;have i:=qaL l;have J:=qlZ l (ql0 o);generalize bys l=B at *
  refine qSU call207 func207 rfl ?_;refine t7 I (.zs (.zs .nil)) ?_;by_cases C:l.length=ks.length
  .simp [go_sem,i,C]
   refine aP ks.length (fun k U=>U.tm 1=lNd ks/\U.tm 5=aS B/\U.tm 7=aI k/\∀ j,j<k->(ks[j]?).map (fun k=>kd k.op)=l[j]?) ?_ ?_
   .exact ⟨zSi,zSi,zSi,fun j P=>absurd P zOm⟩
   .rintro k U hk ⟨R,e5,e7,hI⟩
    by_cases a0:k=ks.length
    .subst a0
     have hf:fitB op ks=true:=by
      rw[fitB,o,decide_eq_true];congr 1;apply j7;intro j;by_cases P:j<ks.length
      .rw [zw,hI j P]
      .rw [uy zOm,uy zSo]
     rw[hf];simp[go_sem,R,e7];exact .zsc _
    .have g:k<ks.length:=by omega
     have w1:=zWk k;simp[go_sem,R,e7,g];refine tV zKr ?_;simp[go_sem,R,e7,g];refine t7 (qaK ks[k].op) (.zs .nil) ?_;have p:k<l.length:=zOm;have a1:k<B.data.size:=by have:B.data.size=l.length:=i;omega
     have hg:=J k p a1;by_cases T:kd ks[k].op=l[k]
     .have t:kd ks[k].op=((B.data[k]).toNat:Int):=by rw[hg];exact T
      simp[go_sem,e5,e7,g,i,C,t,w1];refine aM ?_;refine⟨zS1 R,zS1 e5,zSi,fun j P=>?_⟩;by_cases a2:j=k
      .subst a2
       rw[qw g,qw p,zg,T]
      .exact hI j zOm
     .have t:¬kd ks[k].op=((B.data[k]).toNat:Int):=by rw[hg];exact T
      have hf:fitB op ks=false:=by
       rw[fitB,o,decide_eq_false];intro e;injection e with e;apply T;have:l[k]?=some (kd ks[k].op):=by rw[e,zw,qw g,zg]
       rw[qw p]at this;simpa using this.symm
      rw[hf];simp[go_sem,e5,e7,g,i,C,t];exact .zsc _
  .have hf:fitB op ks=false:=by
    rw[fitB,o,decide_eq_false];intro e;injection e with e;rw[e]at C;simp at C
   rw[hf];simp[go_sem,i,C];exact .zsc _
end Q2
namespace Q3
open Y1 Q1
def letC(c:Int):Bool:=(decide (97<=c)&&decide (c<=122))||(decide (65<=c)&&decide (c<=90))
def chB(i:Nat)(c:Int):Bool:=letC c||(!decide (i=0)&&(decide (c=95)||(decide (48<=c)&&decide (c<=57))))
def yi(s:dA):Bool:=decide (1<=s.size)&&decide (s.size<=16)&&!kwB s&&(qr s.size).all fun i=>match s.data[i]? with|some c=>chB i c.toNat|none=>true
theorem ql1(s):qh qd 252 [aS s] (aB (yi s)):=by
 refine qSV call252 func252 rfl ?_;by_cases h0:s.size=0
 .have t:yi s=false:=by simp[yi,h0]
  rw[t];simp[go_sem,h0];exact .zsc _
 by_cases ad:16<s.size
 .have t:yi s=false:=by
   have:¬s.size<=16:=zOm;simp[yi,this]
  rw[t];have l:(16:Int)<s.size:=zOm;simp[go_sem,h0,l];exact .zsc _
 have l:¬(16:Int)<s.size:=zOm;simp[go_sem,h0,l];refine t7 (qlV s) (.zs .nil) ?_;cases hk:kwB s with
 |true =>
  have t:yi s=false:=by simp[yi,hk]
  rw[t];simp[go_sem];exact .zsc _
 |false =>
  simp[go_sem];refine aP s.size (fun k U=>U.tm 0=aS s/\U.tm 3=aI k/\∀ j c,j<k->s.data[j]?=some c->chB j c.toNat=true) ?_ ?_
  .exact ⟨zSi,zSi,fun j c hj=>absurd hj zOm⟩
  .rintro k U ae ⟨e0,e2,hI⟩
   by_cases aa:k=s.size
   .have t:yi s=true:=by
     simp only[yi,hk,Bool.not_false,Bool.and_true,qB,decide_eq_true_eq,qY,zK];refine⟨⟨zOm,zOm⟩,fun i hi=>?_⟩;cases hc:s.data[i]? with
     |none=>rfl
     |some c=>exact hI i c zOm hc
    rw[t];simp[go_sem,e0,e2,aa];exact .zsc _
   .have o:k<s.size:=by omega
    have a0:k<s.data.size:=o;have w1:=zWk k;have z1:qm.wrap 1=1:=rfl;have a9:s.data[k]?=some s.data[k]:=Array.getElem?_eq_getElem a0;simp[go_sem,e0,e2,o];generalize hc:((s.data[k]).toNat:Int)=c at *
    cases g:chB k c with
    |false =>
     have t:yi s=false:=by
      rw[yi,Bool.and_eq_false_iff];refine .inr (List.all_eq_false.2 ⟨k,zK.2 o,?_⟩);simp only[a9,hc,g];simp
     rw[t];by_cases I:97<=c<;>by_cases J:c<=122<;>by_cases P:65<=c<;>by_cases R:c<=90<;>by_cases T:c=95<;>by_cases a6:c<48<;>by_cases a7:57<c<;>by_cases C:k=0<;>first|omega | (exfalso;simp[chB,letC,I,J,P,R,T,a6,a7,C]at g;done) | (exfalso;simp[chB,letC,I,J,P,R,T,a6,a7,C]at g;omega)|skip
     all_goals
      simp[go_sem,e2,I,J,P,R,T,a6,a7,C];exact .zsc _
    |true =>
     have p:∀ j d,j<k+1->s.data[j]?=some d->chB j d.toNat=true:=fun j d hj hd=>by
      by_cases ab:j=k
      .subst ab
       rw[a9]at hd;cases hd;rw[hc];exact g
      .exact hI j d zOm hd
     by_cases I:97<=c<;>by_cases J:c<=122<;>by_cases P:65<=c<;>by_cases R:c<=90<;>by_cases T:c=95<;>by_cases a6:c<48<;>by_cases a7:57<c<;>by_cases C:k=0<;>first|omega | (exfalso;simp[chB,letC,I,J,P,R,T,C]at g;done) | (exfalso;simp[chB,letC,I,J,P,R,T,C]at g;omega)|skip
     all_goals
      simp[go_sem,e2,I,J,P,R,T,a6,a7,C,w1,z1]
      first
       |exact⟨o,aM ⟨zS1 e0,zSi,p⟩⟩
       | (subst C;exact⟨o,aM ⟨zS1 e0,zSi,fun j d hj hd=>p j d zOm hd⟩⟩)
end Q3
namespace Q4
open P2 Y1 Y2 Y9 Q2 Q3
def YI(op:Int):Bool:=decide (op=1)||decide (op=15)||decide (op=45)||decide (op=46)||decide (op=47)
def numB(op n:Int):Bool:=if op=2 then decide (1<=n)&&decide (n<=3) else if op=20 then decide (-64<=n)&&decide (n<=64) else decide (n=0)
def ownB(n:Nd):Bool:=if YI n.op=yi n.name/\(YI n.op=true\/n.name=⟨#[]⟩) then numB n.op n.n else false
theorem ownU(n):qh qd 206 [eNd n] (aB (ownB n)):=by
 refine qSV call206 func206 rfl ?_;have j:=ql1 n.name;generalize P:yi n.name=N at *
 by_cases p:n.op=1\/n.op=15\/n.op=45\/n.op=46\/n.op=47
 .have l:YI n.op=true:=by grind [YI]
  have t:¬n.op=2:=zOm;have i:¬n.op=20:=zOm;rcases p with h|h|h|h|h
  all_goals
   simp[go_sem,h];refine t7 j (.zs .nil) ?_;cases N with
   |true =>
    have g:ownB n=decide (n.n=0):=by grind [ownB,numB]
    rw[g];simp[go_sem,h];exact .zsc _
   |false =>
    have g:ownB n=false:=by grind [ownB]
    rw[g];simp[go_sem];exact .zsc _
 .simp only[not_or]at p
  obtain⟨d1,d2,d3,d4,d5⟩:=p;have l:YI n.op=false:=by grind [YI]
  simp[go_sem,d1,d2,d3,d4,d5];refine t7 j (.zs .nil) ?_;cases N with
  |true =>
   have g:ownB n=false:=by grind [ownB]
   rw[g];simp[go_sem];exact .zsc _
  |false =>
   by_cases o:n.name=⟨#[]⟩
   .have g:ownB n=numB n.op n.n:=by
     simp_all[ownB,if_pos]
    rw[g];unfold numB;by_cases t:n.op=2
    .by_cases C:1<=n.n<;>by_cases I:n.n<=3<;>(simp[go_sem,t,o,C,I];exact .zsc _)
    .by_cases i:n.op=20
     .by_cases C : -64<=n.n<;>by_cases I:n.n<=64<;>(simp[go_sem,i,o,C,I];exact .zsc _)
     .simp [go_sem,t,i,o]
      exact .zsc _
   .have g:ownB n=false:=by simp[ownB,l,o]
    rw[g];have J:n.name.toList.isEmpty=false:=by simpa using jS o
    simp[go_sem,J];exact .zsc _
mutual
def cntN:Nd->Int->Int
 | .mk _ _ _ ks _,left=>yB ks left 1
def yB:List Nd->Int->Int->Int
 | [],_,sum=>sum
 |k :: ks,left,sum=>if sum<=left then yB ks left (sum+cntN k (left-sum)) else sum
end
theorem X9(n left):cntN n left=yB n.sD left 1:=by
 obtain⟨op,nm,i,ks,p⟩:=n;simp[cntN,Nd.sD]
mutual
theorem UJ:∀(n:Nd)(left:Int),1<=cntN n left/\(cntN n left<=left+1\/cntN n left=1)
 | .mk _ _ _ ks _,left=>by
  simp only[cntN];have:=Ka ks left 1;omega
theorem Ka:∀(ks:List Nd)(left sum:Int),sum<=yB ks left sum/\(yB ks left sum<=left+1\/yB ks left sum=sum)
 | [],left,sum=>by simp[yB]
 |k :: ks,left,sum=>by
  simp only[yB];split
  .have g:=UJ k (left-sum)
   have i:=Ka ks left (sum+cntN k (left-sum));omega
  .omega
end
theorem qaM:∀ m n,szN n<=m->∀ left,-1000000<=left/\left<=1000000->qh qd 146 [eNd n,aI left] (aI (cntN n left))
 | 0,n,P,_,_=>by obtain⟨op,nm,i,ks,p⟩:=n;simp[szN]at P
 |m+1,n,P,left,hl=>by
  have ih:∀ k,k∈n.sD->∀ left:Int,-1000000<=left/\left<=1000000->qh qd 146 [eNd k,aI left] (aI (cntN k left)):=fun k T =>
   qaM m k (zW1 (qZ T))
  rw[X9];generalize hR:yB n.sD left 1=R;refine qSU call146 func146 rfl ?_;refine aP n.sD.length (fun k U=>∃ sum:Int,U.tm 1=aI left/\U.tm 2 = .ip (cNd n)/\U.tm 5=aI sum/\U.tm 6=aI k/\(k:Int)+1<=sum/\(sum<=left+1\/sum=1)/\yB (n.sD.drop k) left sum=R) ?_ ?_
  .simp [go_sem, *]
  .rintro k U T ⟨sum,C,l,I,o,a0,a1,j⟩
   by_cases J:k=n.sD.length
   .subst J
    rw[zY]at j;simp only[yB]at j;subst j;simp[go_sem,l,I,o];exact .zsc _
   .have g:k<n.sD.length:=by omega
    rw[ze g]at j;simp only[yB]at j;by_cases t:sum<=left
    .rw [if_pos t]at j
     have w1:=zWk k;have w2:qm.wrap (left-sum)=left-sum:=zWr;have a2:=UJ n.sD[k] (left-sum);have w3:qm.wrap (sum+cntN n.sD[k] (left-sum))=sum+cntN n.sD[k] (left-sum):=zWr;simp[go_sem,C,l,I,o,g,t,w2];refine t7 (ih n.sD[k] (qv g) (left-sum) ⟨zOm,zOm⟩) (.zk (qC _) (.zs .nil)) ?_;simp[go_sem,o,w1,w3];refine⟨g,aM ?_⟩;exact⟨sum+cntN n.sD[k] (left-sum),zS1 C,zS1 l,zSi,zSi,zOm,zOm,j⟩
    .rw [if_neg t]at j
     subst j;simp[go_sem,C,l,I,o,g,t];exact .zsc _
mutual
def forN:Nd->Int->Bool
 | .mk op nm i ks p,g=>if g<1 then false else ownB (.mk op nm i ks p)&&(fitB op ks&&uN ks (g-1))
def uN:List Nd->Int->Bool
 | [],_=>true
 |k :: ks,g=>forN k g&&uN ks g
end
theorem J6(n g):forN n g=if g<1 then false else ownB n&&(fitB n.op n.sD&&uN n.sD (g-1)):=by
 obtain⟨op,nm,i,ks,p⟩:=n;simp[forN,Nd.sD,Nd.op]
theorem qaN:∀ m n,szN n<=m->Small n->∀ g,-1000000<=g/\g<=1000000->qh qd 147 [eNd n,aI g] (aB (forN n g))
 | 0,n,T,_,_,_=>by obtain⟨op,nm,i,ks,p⟩:=n;simp[szN]at T
 |m+1,n,T,hs,g,hl=>by
  have ih:∀ k,k∈n.sD->∀ g:Int,-1000000<=g/\g<=1000000->qh qd 147 [eNd k,aI g] (aB (forN k g)):=fun k J =>
   qaN m k (zW1 (qZ J)) (hs.kid J)
  have I:=hs.len;rw[J6];have l:=ownU n;have o:=X8 n.op n.sD I;by_cases j:g<1
  .rw [if_pos j]
   refine qSV call147 func147 rfl ?_;simp[go_sem,j];exact .zsc _
  rw[if_neg j];cases ho:ownB n with
  |false =>
   rw[ho]at l;refine qSV call147 func147 rfl ?_;simp[go_sem,j];refine fW l (.zk (qC _) .nil) ?_;exact .zsc _
  |true =>
   rw[ho]at l;cases hf:fitB n.op n.sD with
   |false =>
    rw[hf]at o;refine qSV call147 func147 rfl ?_;simp[go_sem,j];refine fW l (.zk (qC _) .nil) ?_;refine fW o (.zs (.zk (JK _) .nil)) ?_;exact .zsc _
   |true =>
    rw[hf]at o;have wl:qm.wrap (g-1)=g-1:=zWr;generalize hR:uN n.sD (g-1)=R;simp only[Bool.true_and];refine qSV call147 func147 rfl ?_;simp[go_sem,j];refine fW l (.zk (qC _) .nil) ?_;refine fW o (.zs (.zk (JK _) .nil)) ?_;refine aP n.sD.length (fun k U=>U.tm 1=aI g/\U.tm 2 = .ip (cNd n)/\U.tm 5=aI k/\uN (n.sD.drop k) (g-1)=R) ?_ ?_
    .simp [go_sem, *]
    .rintro k U J ⟨e1,e2,e5,t⟩
     by_cases P:k=n.sD.length
     .subst P
      rw[zY]at t;simp only[uN]at t;subst t;simp[go_sem,e2,e5];exact .zsc _
     .have C:k<n.sD.length:=by omega
      have w1:=zWk k;rw[ze C]at t;simp only[uN]at t;have hi:=ih n.sD[k] (qv C) (g-1) ⟨zOm,zOm⟩;simp[go_sem,e1,e2,e5,C,wl];refine t7 hi (.zk (qC _) (.zs .nil)) ?_;cases hq:forN n.sD[k] (g-1) with
      |true =>
       simp_all[go_sem,Bool.true_and,aM]
      |false =>
       rw[hq,Bool.false_and]at t;subst t;simp[go_sem];exact .zsc _
theorem qaO:∀ ks left sum,0<=sum->yB ks left sum<=left->sum+ks.length<=yB ks left sum/\∀ k,k∈ks->∃ g,g<=left/\cntN k g<=g
 | [],left,sum,_,h=>by simp[yB]
 |k :: ks,left,sum,o,h=>by
  simp only[yB]at h⊢;split at h
  .rename_i j
   rw[if_pos j];have p:=UJ k (left-sum);have l:=qaO ks left (sum+cntN k (left-sum)) zOm h;have t:=l.1;refine⟨by grind,fun q i=>?_⟩;rcases qx.1 i with rfl|i
   .grind
   grind
  .omega
theorem qaP:∀ m n left,szN n<=m->left<=1000->cntN n left<=left->Small n
 | 0,n,_,g,_,_=>by obtain⟨op,nm,i,ks,p⟩:=n;simp[szN]at g
 |m+1,n,left,g,I,h=>by
  rw[X9]at h;obtain⟨J,l⟩:=qaO n.sD left 1 zOm h;refine .mk n zOm fun k j=>?_
  obtain⟨o,t,C⟩:=l k j;exact qaP m k o (zW1 (qZ j)) zOm C
def zT(n:Nd):Bool:=decide (cntN n 400<=400)&&forN n 24
theorem ql2(n):qh qd 66 [eNd n] (aB (zT n)):=by
 have i:=qaM (szN n) n (qk _) 400 zOm;by_cases h:cntN n 400<=400
 .have j:=qaP (szN n) n 400 (qk _) zOm h
  have hf:=qaN (szN n) n (qk _) j 24 zOm;have g:zT n=forN n 24:=by simp[zT,h]
  rw[g];refine qSU call66 func66 rfl ?_;refine t7 i (.zk (qC _) (.zs .nil)) ?_;simp[go_sem,h];refine fW hf (.zk (qC _) (.zs .nil)) ?_;exact .zsc _
 .have g:zT n=false:=by simp[zT,h]
  rw[g];refine qSU call66 func66 rfl ?_;refine t7 i (.zk (qC _) (.zs .nil)) ?_;simp[go_sem,h];exact .zsc _
theorem Kb{ks i}(h:uN ks i=true):∀ k,k∈ks->forN k i=true:=by
 induction ks with
 |nil=>grind
 |cons a l j =>
  simp only[uN,qB]at h;intro k g;rcases qx.1 g with rfl|g
  .exact h.1
  .exact j h.2 k g
theorem qaQ:∀ m n g,szN n<=m->forN n g=true->WfN n
 | 0,n,_,j,_=>by obtain⟨op,nm,i,ks,p⟩:=n;simp[szN]at j
 |m+1,n,g,j,h=>by
  rw[J6]at h;split at h
  .grind
  .simp only[qB]at h
   obtain⟨t,C,o⟩:=h;refine .mk n ?_ (fun I=>?_) fun k l=>qaQ m k (g-1) (zW1 (qZ l)) (Kb o k l)
   .grind [fitB]
   simp_all[ownB,numB,if_pos,absurd]
theorem vj{n}(h:zT n=true):WfN n:=by
 simp only[zT,qB]at h;exact qaQ (szN n) n 24 (qk _) h.2
end Q4
namespace Q5
theorem ql3(a b)(ha:a.length<=1000000):qh qd 148 [lI a,lI b] (aB (decide (a=b))):=by
 refine qSV call148 func148 rfl ?_;by_cases j:a.length=b.length
 case neg =>
  rw[decide_eq_false (by rintro rfl;exact j rfl)];simp[go_sem,j];exact .zsc _
 simp[go_sem,j];refine aP a.length (fun k U=>U.tm 0=lI a/\U.tm 1=lI b/\U.tm 5=aI k/\∀(i:Nat)(h:i<a.length)(o:i<b.length),i<k->a[i]=b[i]) ?_ ?_
 .exact ⟨zSi,zSi,zSi,fun i h o R=>absurd R zOm⟩
 .rintro k U hk ⟨l,I,p,T⟩
  by_cases a0:k=a.length
  .rw [decide_eq_true (List.ext_getElem j fun i h o=>T i h o zOm)]
   have J:k=b.length:=zOm;simp[go_sem,l,p,J,j];exact .zsc _
  .have a1:k<a.length:=by omega
   have t:k<b.length:=zOm;have w1:=zWk k;have g:(k:Int)<(b.length:Int):=zOm;by_cases C:a[k]=b[k]
   .simp [go_sem,l,p,j,g]
    try refine tV zKr ?_
    simp[go_sem,l,I,p,t,j,g,C,w1]
    try refine⟨zOm,aM ?_⟩
    try refine aM ?_
    refine⟨zS1 l,zS1 I,zSi,fun i h o R=>?_⟩;by_cases P:i=k
    .subst P;exact C
    .exact T i h o zOm
   .rw [decide_eq_false (fun e=>C (zP1 e))]
    simp[go_sem,l,p,j,g]
    try refine tV zKr ?_
    simp[go_sem,l,I,p,t,j,g,C];exact .zsc _
end Q5
namespace Q6
open Y1 Y9
mutual
def anyN(p:Nd->Bool):Nd->Bool
 | .mk op nm i ks q=>p (.mk op nm i ks q)||jW p ks
def jW(p:Nd->Bool):List Nd->Bool
 | []=>false
 |k :: ks=>anyN p k||jW p ks
end
theorem Kc(p n):anyN p n=(p n||jW p n.sD):=by
 obtain⟨op,nm,i,ks,q⟩:=n;simp[anyN,Nd.sD]
theorem Ke:∀ m n,szN n<=m->Small n->qh qd 14 [eNd n] (aB (anyN (fun n=>decide (n.op=47)) n))
 | 0,n,J,_=>by obtain⟨op,nm,i,ks,p⟩:=n;simp[szN]at J
 |m+1,n,J,P=>by
  have ih:∀ k,k∈n.sD->qh qd 14 [eNd k] (aB (anyN (fun n=>decide (n.op=47)) k)):=fun k t =>
   Ke m k (zW1 (qZ t)) (P.kid t)
  have T:=P.len;rw[Kc];generalize hR:jW (fun n=>decide (n.op=47)) n.sD=R;refine qSV call14 func14 rfl ?_;by_cases C:n.op=47
  .simp [go_sem,C]
   exact .zsc _
  .rw [decide_eq_false C,Bool.false_or]
   simp[go_sem,C];refine aP n.sD.length (fun k U=>U.tm 1 = .ip (cNd n)/\U.tm 3=aI k/\jW (fun n=>decide (n.op=47)) (n.sD.drop k)=R) ?_ ?_
   .exact ⟨zSi,zSi,zUs hR⟩
   .rintro k U t ⟨l,o,j⟩
    by_cases I:k=n.sD.length
    .subst I
     rw[zY]at j;simp only[jW]at j;subst j;simp[go_sem,l,o];exact .zsc _
    .have g:k<n.sD.length:=by omega
     have w1:=zWk k;rw[ze g]at j;simp only[jW]at j;have hi:=ih n.sD[k] (qv g);simp[go_sem,l,o,g,qW]
     try refine tV zKr ?_
     try simp[go_sem,l,o,g,qW]
     refine t7 hi (.zk (qC _) .nil) ?_;cases hq:anyN (fun n=>decide (n.op=47)) n.sD[k] with
     |true =>
      rw[hq,Bool.true_or]at j;subst j;simp[go_sem,l,o];exact .zsc _
     |false =>
      rw[hq,Bool.false_or]at j;simp[go_sem,l,o,w1]
      try refine⟨g,aM ?_⟩
      try refine aM ?_
      exact⟨zS1 l,zSi,j⟩
end Q6
namespace Q7
end Q7
namespace Q8
def fldB(ns:Nat)(f:Fld):Bool:=decide (1<=f.sS.length)&&decide (f.sS.length<=3)&&f.sS.all fun x=>decide (0<=x)&&decide (x<ns)
end Q8
namespace FD
open Y1 Y9 Q4 F2
theorem ql4{ks m}(h:∀ k,k∈ks->dN k<=m):dNs ks<=m:=by
 induction ks with
 |nil=>simp[dNs]
 |cons a l g =>
  simp only[dNs];have:=h a zSp;have:=g fun k i=>h k (zP1 i)
  omega
theorem qaR:∀ m n g,szN n<=m->forN n g=true->(dN n:Int)<=g
 | 0,n,g,l,_=>by
  obtain⟨op,nm,i,ks,q⟩:=n;simp only[szN,Nd.mk.sizeOf_spec]at l;omega
 |m+1,n,g,l,h=>by
  rw[J6]at h;split at h
  .cases h
  .simp only[qB]at h
   have o:=Kb h.2.2;have:dNs n.sD<=(g-1).toNat:=ql4 fun k j=>by
    have:=qaR m k (g-1) (zW1 (qZ j)) (o k j);omega
   rw[UB];omega
theorem ql5{n}(h:zT n=true):dN n<=24:=by
 simp only[zT,qB]at h;have:=qaR (szN n) n 24 (qk _) h.2;omega
theorem qaS:∀ x,(∀ a,a∈x->0<=a)->0<=sumI x:=fun x g=>by
 induction x with
 |nil=>simp[sumI]
 |cons a x i =>
  have o:=g a zSp;have j:=i fun b l=>g b (zP1 l)
  simp only[sumI,List.foldr_cons]at j⊢;omega
theorem ql6:∀ l i,(∀ a,a∈l->0<=a)->i<l.length->0<=gI l i/\0<=sumI (l.take i)/\sumI (l.take i)+gI l i<=sumI l:=fun l i h g=>by
 have e:sumI l=sumI (l.take (i+1))+sumI (l.drop (i+1)):=by rw[<-gY,uA]
 rw[wm l i g]at e;rw[ju g];have p:=qaS (l.drop (i+1)) fun a j=>h a (List.mem_of_mem_drop j)
 have o:=qaS (l.take i) fun a j=>h a (List.mem_of_mem_take j)
 exact⟨h _ (qv g),o,zOm⟩
end FD
namespace GF
open E1 E4 F4
abbrev rP(p:Int×Int):List AV:=[aI p.1,aI p.2]
abbrev lP(ps:List (Int×Int)):AV := .lst false (ps.map rP)
theorem Kf(xs:List (Int×Int)):qS 2 (xs.map rP):=fun r g=>by
 obtain⟨n,_,rfl⟩:=qn.1 g;exact⟨rfl,rfl⟩
abbrev eBd(b:Bd):AV := .agg (cBd b)
theorem qaT(b):∀ c,c∈cBd b->HF c:=by
 intro c g;simp at g;rcases g with rfl|rfl|rfl|rfl
 .exact HF.sc _
 .exact zx _
 .exact HF.sc _
 .exact zx _
theorem yr(b):HF (eBd b):=HF.agg (qaT b)
def Kg(x:Bd):List Int:=x.up.ts.filter fun t=>!decide (t∈x.lo.ts)
def YJ(k:Nat)(x:Bd):List (Int×Int):=(Kg x).map fun t=>((k:Int),t)
def zo:List Bd->Nat->List (Int×Int)
 | [],_=>[]
 |x :: l,k=>YJ k x++zo l (k+1)
theorem qaU:∀ l m k,zo (l++m) k=zo l k++zo m (k+l.length)
 | [],m,k=>by simp[zo]
 |x :: l,m,k=>by
  rw[yD,zo,zo,qaU l m (k+1),zE];have:k+1+l.length=k+(x :: l).length:=zSo;rw[this]
theorem ql7(l:List Bd)(k h):zo (l.take (k+1)) 0=zo (l.take k) 0++YJ k l[k]:=by
 rw[List.take_add_one,qw h];show zo (l.take k++[l[k]]) 0=_;rw[qaU];have:(l.take k).length=k:=zSo;rw[this,yK];simp[zo]
structure qaV (x:Bd):Prop where
 up:x.up.ts.length<=1000000
 lo:x.lo.ts.length<=1000000
 zn:x.lo.ts.Pairwise (·<=·)
theorem Kh:∀ l k,(∀ x,x∈l->qaV x)->(zo l k).length<=l.length*1000000
 | [],k,_=>by simp[zo]
 |x :: l,k,h=>by
  have i:=Kh l (k+1) (fun y g=>h y (zP1 g));have j:(YJ k x).length<=1000000:=by
   rw[YJ,zX];exact zH (List.length_filter_le _ _) (h x zSp).up
  simp only[zo,zf,yp];omega
theorem cU{mu av xs}(h:Own mu 2 av (xs.map rP)):Rd mu av (lP xs):=
 h.rd (Kf xs).ok fun r i c g=>by
  obtain⟨n,_,rfl⟩:=qn.1 i;simp at g;rcases g with rfl|rfl<;>exact HF.sc _
end GF
namespace KA
open Y1 P1 E1 E3
def jn(p:Int)(k:Nd):Nd:=if k.op=48 then k else .mk 48 ⟨#[]⟩ 0 [k] p
mutual
def conj:Nd->List Nd
 | .mk op nm i ks p=>if op=41 then (uO ks).getD 0 []++(uO ks).getD 1 [] else if op=48 then ((uO ks).getD 0 []).map (jn p) else [.mk op nm i ks p]
def uO:List Nd->List (List Nd)
 | []=>[]
 |k :: ks=>conj k :: uO ks
end
structure Ns where
 ts:TS
 sc:Sc
 bs:List Bd
abbrev Ns.n(σ:Ns):Int:=sumI σ.sc.sC
abbrev rl0:Rl:=⟨0,[]⟩
abbrev bd0:Bd:=⟨rl0,rl0⟩
abbrev exR(r:Rl):Bd:=⟨r,r⟩
def allN(n k:Int):Rl:=⟨k,(qr (n ^ k.toNat).toNat).map fun i:Nat=>(i:Int)⟩
def YK(sc:Sc)(i:Nat):List Int:=(qr (gI sc.sC i).toNat).map fun k:Nat=>sumI (sc.sC.take i)+k
def ZV(sc:Sc)(i:Nat):List Int:=(qr ((gI sc.sC i).toNat-1)).map fun k:Nat=>(sumI (sc.sC.take i)+k)*sumI sc.sC+(sumI (sc.sC.take i)+k+1)
def Zh(nm:dA)(env:List (dA×Bd)):Option Bd:=env.foldl (fun r e=>if e.1=nm then some e.2 else r) none
def jX(nm:dA):List Fld->List Bd->Option Bd
 |f :: g,b :: o=>if f.name=nm then some b else jX nm g o
 |_,_=>none
def Zi(sc:Sc)(nm:dA):Nat->List (dA×Bool)->Bd
 |_,[]=>bd0
 |i,s :: g=>if s.1=nm then exR ⟨1,YK sc i⟩ else if s.2=true/\s.1++yM=nm then exR ⟨1,[sumI (sc.sC.take i)]⟩ else if s.2=true/\s.1++jl=nm then exR ⟨2,ZV sc i⟩ else Zi sc nm (i+1) g
def yi(σ:Ns)(env:List (dA×Bd))(nm:dA):Bd:=match Zh nm env with
 |some b=>b
 |none=>match jX nm σ.ts.sA σ.bs with
  |some b=>b
  |none=>Zi σ.sc nm 0 σ.ts.sS
def uP(n:Int)(a b:Rl):Rl:=⟨a.ar,a.ts.filter fun t=>decide (∀ u,u∈b.ts->u / powI n (b.ar-1)≠t / powI n (a.ar-1))⟩
def vE(q:XE Rl):Rl:=match q with
 | .ok r=>r
 | .error _=>rl0
def map2(f:Rl->Rl->Rl)(x y:Bd):Bd:=⟨f x.lo y.lo,f x.up y.up⟩
def opI(σ:Ns)(env:List (dA×Bd))(op:Int)(nm:dA)(i:Int)(l:List Bd):Bd:=
 let x:=l.getD 0 bd0
 let y:=l.getD 1 bd0
 if op=1 then yi σ env nm
 else if op=2 then exR ⟨i,[]⟩
 else if op=3 then exR (allN σ.n 1)
 else if op=4 then exR (idR σ.n)
 else if op=5 then x
 else if op=11 then ⟨trR σ.n x.lo,trR σ.n x.up⟩
 else if op=12 then ⟨clR σ.n 200 x.lo,clR σ.n 200 x.up⟩
 else if op=13 then ⟨unR (clR σ.n 200 x.lo) (idR σ.n),unR (clR σ.n 200 x.up) (idR σ.n)⟩
 else if op=15 then ⟨⟨1,[]⟩,x.up⟩
 else if op=6 then map2 unR x y
 else if op=7 then map2 inR x y
 else if op=8 then ⟨diR x.lo y.up,diR x.up y.lo⟩
 else if op=9 then map2 (fun a b=>vE (jw σ.n a b)) x y
 else if op=10 then map2 (fun a b=>vE (jT σ.n a b)) x y
 else ⟨unR y.lo (uP σ.n x.lo y.up),unR y.up (uP σ.n x.up y.lo)⟩
mutual
def ivl(σ:Ns)(env:List (dA×Bd)):Nd->Bd
 | .mk op nm i ks p=>opI σ env op nm i (ivls σ env ks)
def ivls(σ:Ns)(env:List (dA×Bd)):List Nd->List Bd
 | []=>[]
 |k :: ks=>ivl σ env k :: ivls σ env ks
end
theorem Ki(σ env):∀ ks,ivls σ env ks=ks.map (ivl σ env)
 | []=>rfl
 |k :: ks=>by rw[ivls,Ki σ env ks];rfl
theorem vI(σ env n):ivl σ env n=opI σ env n.op n.name n.n (n.sD.map (ivl σ env)):=by
 obtain⟨op,nm,i,ks,p⟩:=n;rw[ivl,Ki];rfl
abbrev Br:=Option (List Bd×Bool)
def sub1(a b:Rl):Bool:=decide ((diR a b).ts=[])
def Zj(i:Nat)(p q:Rl)(bs:List Bd)(c:Bool):Br:=
 let b:=bs.getD i bd0
 let x:Bd:=⟨unR b.lo p,inR b.up q⟩
 if sub1 x.lo x.up=true then (if x.lo=b.lo/\x.up=b.up then some (bs,c) else some (bs.set i x,true)) else none
def idxF(fs:List Fld)(nm:dA):Option Nat:=fs.findIdx? fun f=>decide (f.name=nm)
mutual
def narN(ts:TS)(sc:Sc)(g:Bool):Nd->Rl->Rl->List Bd->Bool->Br
 | .mk op nm i ks l,p,q,o,c =>
  let j:Ns:=⟨ts,sc,o⟩
  let x:=ivl j [] (.mk op nm i ks l)
  let all:=allN j.n x.lo.ar
  if (sub1 p x.up&&sub1 x.lo q)=true then
   if op=1 then (match idxF ts.sA nm with
    |some i=>if (g||!((ts.sA.map fun f=>f.var).getD i false))=true then Zj i p q o c else some (o,c)
    |none=>some (o,c))
   else if op=6 then narU ts sc g ks ⟨p.ar,(diR p ((ivls j [] ks).getD 1 bd0).up).ts⟩ ⟨p.ar,(diR p ((ivls j [] ks).getD 0 bd0).up).ts⟩ q o c
   else if op=7 then narU ts sc g ks p p all o c
   else if op=8 then narD ts sc g ks p all ⟨all.ar,[]⟩ (diR all p) o c
   else if op=11 then narT ts sc g ks (trR j.n p) (trR j.n q) o c
   else some (o,c)
  else none
def narU(ts:TS)(sc:Sc)(g:Bool):List Nd->Rl->Rl->Rl->List Bd->Bool->Br
 | [],_,_,_,o,c=>some (o,c)
 |k :: ks,p,j,q,o,c=>match narN ts sc g k p q o c with
  |none=>none
  |some (i,l)=>narU ts sc g ks j j q i l
def narD(ts:TS)(sc:Sc)(g:Bool):List Nd->Rl->Rl->Rl->Rl->List Bd->Bool->Br
 | [],_,_,_,_,o,c=>some (o,c)
 |k :: ks,p,q,j,l,o,c=>match narN ts sc g k p q o c with
  |none=>none
  |some (i,t)=>narD ts sc g ks j l j l i t
def narT(ts:TS)(sc:Sc)(g:Bool):List Nd->Rl->Rl->List Bd->Bool->Br
 | [],_,_,o,c=>some (o,c)
 |k :: _,p,q,o,c=>narN ts sc g k p q o c
end
def brB(r:Br)(f:List Bd->Bool->Br):Br:=match r with
 |none=>none
 |some (o,c)=>f o c
def wF(ts:TS)(sc:Sc)(g:Bool)(n:Nd)(bs:List Bd)(c:Bool):Br:=
 let x:=ivl ⟨ts,sc,bs⟩ [] n
 if x.up.ts.length=0 then none else if x.up.ts.length=1 then narN ts sc g n x.up (allN (sumI sc.sC) x.up.ar) bs c else some (bs,c)
def wG(ts:TS)(sc:Sc)(g:Bool)(n:Nd)(bs:List Bd)(c:Bool):Br:=
 let x:=ivl ⟨ts,sc,bs⟩ [] n
 if 1<x.lo.ts.length then none else if x.lo.ts.length=1 then narN ts sc g n ⟨x.lo.ar,[]⟩ x.lo bs c else some (bs,c)
def noN(ts:TS)(sc:Sc)(g:Bool)(n:Nd)(bs:List Bd)(c:Bool):Br:=
 let e:Rl:=⟨(ivl ⟨ts,sc,bs⟩ [] n).lo.ar,[]⟩
 narN ts sc g n e e bs c
def kidN(n:Nd)(i:Nat):Nd:=n.sD.getD i (.mk 0 ⟨#[]⟩ 0 [] 0)
def uQ(ts:TS)(sc:Sc)(g:Bool)(n:Nd)(bs:List Bd)(c:Bool):Br:=
 let no:=decide (n.op=40)
 let m:=if n.op=40 then kidN n 0 else n
 let k:=kidN m 0
 if (no=true/\m.op=34)\/(no=false/\m.op=35) then noN ts sc g k bs c
 else if (no=true/\m.op=35)\/(no=false/\m.op=34) then wF ts sc g k bs c
 else if no=true then some (bs,c)
 else if m.op=31 then none
 else if m.op=36 then brB (wF ts sc g k bs c) fun bs c=>wG ts sc g k bs c
 else if m.op=37 then wG ts sc g k bs c
 else if m.op=32\/m.op=33 then
  let x:=ivl ⟨ts,sc,bs⟩ [] k
  let y:=ivl ⟨ts,sc,bs⟩ [] (kidN m 1)
  let all:=allN (sumI sc.sC) x.lo.ar
  let i:=if m.op=32 then all else x.up
  let yl:=if m.op=32 then ⟨all.ar,[]⟩ else y.lo
  brB (narN ts sc g k yl y.up bs c) fun bs c=>narN ts sc g (kidN m 1) x.lo i bs c
 else some (bs,c)
abbrev ndZ:Nd := .mk 0 ⟨#[]⟩ 0 [] 0
mutual
def y6:Nd->Bool->Nd×Bool
 | .mk op nm i ks p,g=>if op=48 then UK ks else (.mk op nm i ks p,g)
def UK:List Nd->Nd×Bool
 | []=>(ndZ,true)
 |k :: _=>y6 k true
end
def Zk(ts:TS)(sc:Sc):List Nd->List Bd->Bool->Br
 | [],o,c=>some (o,c)
 |n :: l,o,c=>brB (uQ ts sc (y6 n (decide (sc.sN=1))).2 (y6 n (decide (sc.sN=1))).1 o c) fun o c=>Zk ts sc l o c
def fixN(ts:TS)(sc:Sc)(l:List Nd):Nat->List Bd->Option (List Bd)
 | 0,o=>some o
 |f+1,o=>match Zk ts sc l o false with
  |none=>none
  |some (g,true)=>fixN ts sc l f g
  |some (g,false)=>some g
end KA
namespace KB
open Y1 Y2 Y9 P1 P2 E1 E2 E3 KA
section
variable {c:Ck}{l:List (Option Kd)}{s:Scp}
inductive ArN (A:dA->Option Int):Nd->Int->Prop where
 |name {n:Nd} {a:Int} (ho:n.op=1) (h:A n.name=some a):ArN A n a
 |none {n:Nd} (ho:n.op=2) (h:1<=n.n/\n.n<=3):ArN A n n.n
 |univ {n:Nd} (ho:n.op=3):ArN A n 1
 |iden {n:Nd} (ho:n.op=4):ArN A n 2
 |prime {n x:Nd} {a:Int} (ho:n.op=5) (hk:n.sD=[x]) (h:ArN A x a):ArN A n a
 |bin {n x:Nd} (ho:11<=n.op/\n.op<=13) (hk:n.sD=[x]) (h:ArN A x 2):ArN A n 2
 |alike {n x y:Nd} {a:Int} (ho:n.op=6\/n.op=7\/n.op=8\/n.op=14) (hk:n.sD=[x,y]) (hx:ArN A x a) (hy:ArN A y a):ArN A n a
 |join {n x y:Nd} {a b:Int} (ho:n.op=9) (hk:n.sD=[x,y]) (hx:ArN A x a) (hy:ArN A y b) (h:1<=a+b-2/\a+b-2<=3):ArN A n (a+b-2)
 |prod {n x y:Nd} {a b:Int} (ho:n.op=10) (hk:n.sD=[x,y]) (hx:ArN A x a) (hy:ArN A y b) (h:a+b<=3):ArN A n (a+b)
 |compr {n x f:Nd} (ho:n.op=15) (hk:n.sD=[x,f]) (hx:ArN A x 1):ArN A n 1
def arS(c:Ck)(s:Scp)(nm:dA):Option Int:=match yG c s nm 0 with
 | .ok (some k)=>some k.ar
 |_=>none
theorem ql8{nm p k}(h:yG c s nm p = .ok (some k)):arS c s nm=some k.ar:=by
 unfold arS;unfold yG at h⊢;split at h
 .simp_all
 .split at h
  .cases h
  .simp_all
  .cases h
theorem ur{n a b}(i:WfN n)(e:shp n.op n.sD.length=some [a,b]):∃ x y,n.sD=[x,y]/\kd x.op=a/\kd y.op=b:=by
 have g:=i.shape;rw[e]at g;simp only[qp]at g
 match j:n.sD,g with
 | [x,y],g=>simp at g;exact⟨x,y,rfl,g.1.symm,g.2.symm⟩
 | [],g=>simp at g
 | [_],g=>simp at g
 |_ :: _ :: _ :: _,g=>simp at g
theorem uu{n a}(i:WfN n)(e:shp n.op n.sD.length=some [a]):∃ x,n.sD=[x]/\kd x.op=a:=by
 have g:=i.shape;rw[e]at g;simp only[qp]at g
 match j:n.sD,g with
 | [x],g=>simp at g;exact⟨x,rfl,g.symm⟩
 | [],g=>simp at g
 |_ :: _ :: _,g=>simp at g
theorem exL1{b x}(h:zl c s b [x] = .ok l):∃ a,l=[a]/\exam c s b x = .ok a:=by
 obtain⟨g,i⟩:=Yq h
 match l,g with
 | [a],_=>exact⟨a,rfl,i 0 x a rfl rfl⟩
theorem exL2{b x y}(h:zl c s b [x,y] = .ok l):∃ a g,l=[a,g]/\exam c s b x = .ok a/\exam c s b y = .ok g:=by
 obtain⟨j,i⟩:=Yq h
 match l,j with
 | [a,g],_=>exact⟨a,g,rfl,i 0 x a rfl rfl,i 1 y g rfl rfl⟩
theorem UL(hc:okCk c):∀ m n s inn k,szN n<=m->WfN n->ScOk c.ts.sS.length s->exam c s inn n = .ok (some k)->kd n.op=101->ArN (arS c s) n k.ar
 | 0,n,_,_,_,hm,_,_,_,_=>by obtain⟨op,nm,i,ks,p⟩:=n;simp[szN]at hm
 |m+1,n,s,inn,k,hm,I,hs,h,a0=>by
  have ho:=Yr a0;have j:∀ x,x∈n.sD->szN x<=m:=fun x C=>zW1 (qZ C)
  have U:∀ x b q,x∈n.sD->kd x.op=101->exam c s b x = .ok q->∃ k,q=some k/\ArN (arS c s) x k.ar:=fun x b q C g o=>by
   obtain⟨k,rfl,_⟩:=jI hc m x s b q (j x C) (I.kid C) hs o g;exact⟨k,rfl,UL hc m x s b k (j x C) (I.kid C) hs o g⟩
  rw[jU]at h;split at h
  .cases h
  split at h
  .rename_i h1;exact .name h1 (ql8 h)
  split at h
  .omega
  split at h
  .rename_i J
   obtain⟨x,f,g,P,_⟩:=ur (a:=101) (b:=102) I (by unfold shp;rw[zIn,zIn,zIn,if_pos zOm]);rw[g]at h;simp only[yR]at h;cases o:exam c s (inn||decide (n.op=15)) x with
   |error e=>rw[o]at h;cases h
   |ok q =>
    obtain⟨a,rfl,t⟩:=U x _ q (by rw[g];simp) P o;rw[o]at h;simp only at h;split at h
    .rename_i h1
     split at h
     .cases h
     .simp only[yJ,qp]at h
      subst h;rw[h1]at t⊢;exact .compr zOm g t
    .cases h
  .rename_i n1 a4 nb
   cases R:zl c s (inn||decide (n.op=12)||decide (n.op=13)) n.sD with
   |error e=>rw[R]at h;cases h
   |ok l =>
    rw[R]at h;simp only at h;by_cases T:n.op=2
    .simp [zz,T]at h;subst h;exact .none T (I.num T)
    by_cases o3:n.op=3
    .simp [zz,o3]at h;subst h;exact .univ o3
    by_cases o4:n.op=4
    .simp [zz,o4]at h;subst h;exact .iden o4
    by_cases u:n.op=5\/n.op=11\/n.op=12\/n.op=13
    .obtain ⟨x,g,P⟩:=uu (a:=101) I (by unfold shp;rw[zIn,if_pos zOm])
     rw[g]at R;obtain⟨q,rfl,o⟩:=exL1 R;obtain⟨a,rfl,t⟩:=U x _ q (by rw[g];simp) P o;by_cases o5:n.op=5
     .simp [zz,o5]at h;subst h;exact .prime o5 g t
     have J:n.op=11\/n.op=12\/n.op=13:=zOm;simp only[zz,if_neg T,if_neg o3,if_neg o4,if_neg o5,if_pos J]at h;split at h
     .rename_i a2
      simp only[yJ,qp]at h;subst h;have:(binK c.ts.sS.length n.op a).ar=2:=by
       have C:=jI hc m x s _ _ (j x (by rw[g];simp)) (I.kid (by rw[g];simp)) hs o P;obtain⟨a',e,ok⟩:=C;cases e;have:=Yp ok a2;unfold binK;split
       .exact this.2
       split
       .exact this.2
       .rfl
      rw[a2]at t;rw[this];exact .bin zOm g t
     .cases h
    .obtain ⟨x,y,g,P,ky⟩:=ur (a:=101) (b:=101) I (by unfold shp;rw[zIn,zIn,if_pos zOm])
     rw[g]at R;obtain⟨q,q',rfl,o,a1⟩:=exL2 R;obtain⟨a,rfl,t⟩:=U x _ q (by rw[g];simp) P o;obtain⟨b,rfl,J⟩:=U y _ q' (by rw[g];simp) ky a1;simp only[zz,if_neg T,if_neg o3,if_neg o4]at h;split at h
     .rename_i al
      split at h
      .rename_i e
       simp only[yJ,qp]at h;subst h;have:(vY n.op a b).ar=a.ar:=by simp only[vY,kSum,JM];grind
       rw[this];rw[<-e]at J;exact .alike zOm g t J
      .cases h
     split at h
     .split at h
      .simp only[yJ,qp]at h
       subst h;rename_i h9 hr;exact .join h9 g t J hr
      .cases h
     split at h
     .split at h
      .simp only[yJ,qp]at h
       subst h;rename_i a3 hr;exact .prod a3 g t J hr
      .cases h
     .omega
structure okI (n a:Int) (b:Bd):Prop where
 lo:GR n b.lo
 up:GR n b.up
 la:b.lo.ar=a
 ua:b.up.ar=a
theorem GR.all{n k}(j:0<=n)(l:1<=k)(g:k<=3):GR n (allN n k):=by
 refine⟨l,g,fun t o=>?_,?_⟩
 .obtain ⟨i,p,rfl⟩:=qn.1 o
  rw[zK]at p;have e:(allN n k).ar=k:=rfl;rw[e,wv zOm g];have:0<=n ^ k.toNat:=Int.pow_nonneg j;omega
 .show ((qr _).map _).Pairwise _
  rw[List.pairwise_map];exact List.pairwise_lt_range.imp fun h=>zOm
theorem cV{n a b}(g:GR n a):GR n (uP n a b):=g.filter _
theorem YL{n r}(h:GR n r):okI n r.ar (exR r):=⟨h,h,rfl,rfl⟩
theorem qaW{σ env A}(C:0<=σ.n)(hA:∀ nm a,A nm=some a->okI σ.n a (yi σ env nm)){n a}(h:ArN A n a):okI σ.n a (ivl σ env n):=by
 induction h with
 |name j h=>rw[vI];simp only[opI,if_pos j];exact hA _ _ h
 | @none n j h=>rw[vI];simp[opI,j];exact YL (GR.nil h.1 h.2)
 |univ j=>rw[vI];simp[opI,j];exact YL (GR.all C zOm zOm)
 |iden j=>rw[vI];simp[opI,j];exact YL (GR.iden C)
 |prime j I h U=>rw[vI];simp[opI,j,I];exact U
 | @bin n x j I h U =>
  rw[vI,I];obtain⟨l,u,t,p⟩:=U;have cl:=aR C 200 l t;have cu:=aR C 200 u p;rcases (show n.op=11\/n.op=12\/n.op=13 by omega) with o|o|o<;>simp[opI,o]
  .exact ⟨GR.trans C l t,GR.trans C u p,rfl,rfl⟩
  .exact ⟨cl.1,cu.1,cl.2,cu.2⟩
  .exact ⟨aG cl.1 (GR.iden C) cl.2,aG cu.1 (GR.iden C) cu.2,cl.2,cu.2⟩
 |alike j I hx hy J P =>
  rw[vI,I];obtain⟨l,u,t,p⟩:=J;obtain⟨R,T,g,i⟩:=P;rcases j with o|o|o|o<;>simp[opI,o,map2]
  .exact ⟨aG l R (by rw[t,g]),aG u T (by rw[p,i]),t,p⟩
  .exact ⟨l.filter _,u.filter _,t,p⟩
  .exact ⟨l.filter _,u.filter _,t,p⟩
  .exact ⟨aG R (cV l) (by rw[g];exact t.symm),aG T (cV u) (by rw[i];exact p.symm),g,i⟩
 | @join n x y a b j I hx hy h J P =>
  rw[vI,I];obtain⟨l,u,t,p⟩:=J;obtain⟨R,T,g,i⟩:=P;simp[opI,j,map2,jw,t,p,g,i,h,vE];exact⟨GR.join C l R zOm zOm,GR.join C u T zOm zOm,by simp[joR,t,g],by simp[joR,p,i]⟩
 |prod j I hx hy h J P =>
  rw[vI,I];obtain⟨l,u,t,p⟩:=J;obtain⟨R,T,g,i⟩:=P;simp[opI,j,map2,jT,t,p,g,i,h,vE];exact⟨GR.prod C l R zOm,GR.prod C u T zOm,by simp[prR,t,g],by simp[prR,p,i]⟩
 |compr j I hx U =>
  rw[vI,I];obtain⟨l,u,t,p⟩:=U;simp[opI,j];exact⟨GR.nil zOm zOm,u,rfl,p⟩
end
end KB
namespace G5
open E4 E9 EO EQ
theorem Kj(sc)(g:GSc sc)(n:Nat)(P:n<=1000000):qh qd 151 [eSc sc,aI n] (aI (sumI (sc.sC.take n))):=by
 have R:=g.1;refine qSU call151 func151 rfl ?_;refine ql.up (min n sc.sC.length) (fun k U=>U.tm 1=aI n/\U.tm 2 = .ip [lI sc.sC,aI sc.sN]/\U.tm 5=aI (sumI (sc.sC.take k))/\U.tm 6=aI k) ?_ ?_
 .simp [go_sem,sumI]
 rintro k U T ⟨l,I,o,p⟩;by_cases j:k<n
 .by_cases i:k<sc.sC.length
  .have J:=wm sc.sC k i
   have t:=g.sum (k+1);rw[J]at t;simp[go_sem,l,I,o,p,j,i]
   grind [yn]
  .have e:sc.sC.take n=sc.sC.take k:=by rw[zJ zOm,zJ zOm]
   rw[e];simp[go_sem,l,I,o,p,j,i];exact .zsc _
 .have C:k=n:=by omega
  subst C;simp[go_sem,l,o,p];exact .zsc _
theorem Kk(sc)(g:GSc sc):qh qd 70 [eSc sc] (aI (sumI sc.sC)):=by
 have i:=g.1;have h:=Kj sc g sc.sC.length zOm;rw[q8]at h;refine qSU call70 func70 rfl ?_;refine fW h (.zk (zF _) (.zs .nil)) ?_;exact .zsc _
theorem Zl(n:Int)(g:0<=n)(i:n<=20):∀ k,k<=3->0<=n ^ k/\n ^ k<=8000
 | 0,_=>zSp
 | 1,_=>by rw[show n ^ 1=n by rw[Int.pow_succ,Int.pow_zero,Int.one_mul]];omega
 | 2,_=>by
  have:n*n<=20*20:=jq i i g zOm;have j:=Int.mul_nonneg g g;rw[show n ^ 2=n*n by grind];omega
 | 3,_=>by
  have j:n*n<=20*20:=jq i i g zOm;have l:=Int.mul_nonneg g g;have o:n*n*n<=400*20:=jq j i g zOm;simp_all[Int.mul_nonneg,Int.pow_succ,Int.pow_zero,Int.one_mul]
 |k+4,h=>zOm
theorem qaX(sc)(g:GSc sc)(n:Nat)(P:n<=3):qh qd 153 [eSc sc,aI n] (aI (sumI sc.sC ^ n)):=by
 have j:=g.sum sc.sC.length;rw[q8]at j;refine qSU call153 func153 rfl ?_;refine ql.up n (fun k U=>U.tm 1=aI n/\U.tm 2 = .ip [lI sc.sC,aI sc.sN]/\U.tm 5=aI (sumI sc.sC ^ k)/\U.tm 6=aI k) ?_ ?_
 .simp [go_sem]
 rintro k U R ⟨l,t,C,o⟩;by_cases i:k<n
 .have I:=Zl (sumI sc.sC) j.1 j.2 (k+1) zOm
  have e:sumI sc.sC ^ (k+1)=sumI sc.sC ^ k*sumI sc.sC:=Int.pow_succ ..;rw[e]at I;have J:(k:Int)<3:=zOm;simp[go_sem,l,t,C,o,i,J];refine t7 (Kk sc g) (.zk (zF _) .nil) ?_;simp[go_sem,l,t,o,i]
  grind [yn]
 .have p:k=n:=by omega
  subst p;simp[go_sem,l,C,o];exact .zsc _
theorem qaY(l x)(g:∀ a,a∈l->0<=a):∀ k i,k<=l.length->sumI (l.take k)<=x->uc l x i=uc (l.drop k) (x-sumI (l.take k)) (i+k):=by
 intro k;induction k with
 |zero=>grind [sumI]
 |succ k j =>
  intro i p t;have o:=wm l k zOm;have C:=g _ (qv (show k<l.length by omega));rw[j i zOm zOm,m8 l k _ _ zOm,zIn,o]
  grind
theorem ql9(sc)(g:GSc sc)(x:Nat)(hx:x<=1000):qh qd 212 [eSc sc,aI x] (aI (ud sc x)):=by
 have hl:=g.1;have l:∀ a,a∈sc.sC->0<=a:=fun a T=>(g.2 a T).1
 refine qSU call212 func212 rfl ?_;refine ql.up sc.sC.length (fun k U=>U.tm 1=aI x/\U.tm 2 = .ip [lI sc.sC,aI sc.sN]/\U.tm 5=aI k/\sumI (sc.sC.take k)<=x) ?_ ?_
 .simp [go_sem,sumI]
 rintro k U J ⟨t,p,o,C⟩;by_cases j:k<sc.sC.length
 .have hs:=wm sc.sC k j
  have i:=qaY sc.sC x l k 0 J C;rw[m8 sc.sC k _ _ j]at i;have P:qm.wrap ((k:Int)+1)=((k+1:Nat):Int):=by grind [yn]
  simp[go_sem,t,p,o,j];refine t7 (Kj sc g k zOm) (.zk (zF _) (.zs .nil)) ?_;simp[go_sem,t,p,o,C,P];refine t7 (Kj sc g (k+1) zOm) (.zk (zF _) (.zs .nil)) ?_;by_cases R:(x:Int)<sumI (sc.sC.take (k+1))
  .have e:ud sc x=k:=by
    unfold ud;rw[i,if_pos zOm];omega
   rw[e];simp[go_sem,o,R];exact .zsc _
  .simp [go_sem,t,p,o,j,R,P]
   omega
 .have I:k=sc.sC.length:=by omega
  subst I;have e:ud sc x = -1:=by
   unfold ud;rw[qaY sc.sC x l sc.sC.length 0 J C,zY];rfl
  rw[e];simp[go_sem,p,o];exact .zsc _
def digs(n:Int):Nat->Int->List Int
 | 0,_=>[]
 |k+1,r=>digs n k (r / n)++[r % n]
theorem YN(n):∀ k r,(digs n k r).length=k
 | 0,_=>rfl
 |k+1,r=>by rw[digs,zf,YN n k];rfl
theorem qaZ(n):∀ j x,divN n (x / n) j=divN n x (j+1)
 | 0,x=>rfl
 |j+1,x=>by rw[divN,qaZ n j x];rfl
theorem qa0(n):∀ j r,digs n (j+1) r=(divN n r j % n) :: digs n j r
 | 0,r=>by simp[digs,divN]
 |j+1,r=>by
  rw[digs,qa0 n j (r / n),qaZ,yD];rfl
theorem Kl(n r)(i:0<n)(g:0<=r):∀ j,0<=divN n r j/\divN n r j<=r
 | 0=>⟨g,by simp[divN]⟩
 |j+1=>by
  have:=Kl n r i g j;rw[divN];have l:=Int.ediv_le_self n this.1;exact⟨Int.ediv_nonneg this.1 zOm,zOm⟩
theorem qmA{mu b cells ds}(o:mu[b]?=some (.arr cells))(h:∀ i (I:i<ds.length),cells[i]?=some (aI ds[i])):Rd mu (.sl b 1 0 ds.length) (lI ds):=by
 refine .sl b 1 0 ds.length cells (ds.map rI) o ?_ zSp (fun r p=>by obtain⟨x,_,rfl⟩:=qn.1 p;rfl) fun k x y g l=>?_
 .grind
 .rw [yK]at g
  rw[GD.wu,zw,vL]at l;obtain⟨z,t,rfl⟩:=l;have C:=(qj.1 t);obtain⟨j,rfl⟩:=C;rw[h k j]at g;cases g;exact .zsc _
theorem qmB(sc)(g:GSc sc)(hp:0<sumI sc.sC)(k:Nat)(hk:k<=3)(r:Nat)(hr:(r:Int)<sumI sc.sC ^ k):qh qd 154 [eSc sc,aI k,aI r] (lI (digs (sumI sc.sC) k r)):=by
 have hs:=g.sum sc.sC.length;rw[q8]at hs;have a7:=Zl (sumI sc.sC) hs.1 hs.2 k hk;refine qSV call154 func154 rfl ?_;have a0:¬(3:Int)<k:=zOm;have a1:¬(k:Int)<0:=zOm;have a2:¬(r:Int)<0:=zOm;simp[go_sem,a0,a1,a2];refine t7 (qaX sc g k hk) (.zk (zF _) (.zs .nil)) ?_;have a3:¬sumI sc.sC ^ k<=(r:Int):=zOm;simp[go_sem,a3];refine t7 (Kk sc g) (.zk (zF _) .nil) ?_;generalize hN:sumI sc.sC=N at *
 have w0:qm.wrap ((k:Int)-1)=(k:Int)-1:=zWr;simp[go_sem,w0];refine t8 (fun m U=>∃ j:Nat,m=k-j/\j<=k/\U.tm 1=aI k/\U.tm 7 = .sl 0 1 0 3/\U.tm 8=aI N/\U.tm 9=aI (divN N r j)/\U.tm 10=aI ((k:Int)-1-j)/\∃ c0 c1 c2,U.mu=[.arr [aI c0,aI c1,aI c2]]/\∀ i (J:i<j),[c0,c1,c2][k-j+i]?=some ((digs N j r)[i]'(by rw[YN];exact J))) k ?_ ?_
 .exact ⟨0,zOm,zOm,zSi,zSi,zSi,by simp[go_sem,divN],zSi,0,0,0,zSi,fun i J=>zOm⟩
 rintro m U ⟨j,rfl,hj,T,e7,P,e9,o,c0,c1,c2,hm,hc⟩;by_cases a8:j<k
 .obtain ⟨d,rfl⟩:∃ d:Nat,k=j+1+d:=⟨k-(j+1),zOm⟩
  have p:d=0\/d=1\/d=2:=zOm;have ex:(((j+1+d:Nat):Int)-1-j)=(d:Int):=zOm;rw[ex]at o;have R:=Kl N r hp zOm j;have a9:(r:Int)<=8000:=zOm;have hq:(divN N r j).tdiv N=divN N r (j+1):=by rw[divN,Int.tdiv_eq_ediv_of_nonneg R.1]
  have t:(divN N r j).tmod N=divN N r j % N:=Int.tmod_eq_emod_of_nonneg R.1;have a6:=Kl N r hp zOm (j+1);have w1:qm.wrap (divN N r (j+1))=divN N r (j+1):=zWr;have C:¬N=0:=zOm;have aa:(digs N (j+1) r)=(divN N r j % N) :: digs N j r:=qa0 N j r;have a4:=YN N j r;rcases p with p|p|p
  .have l:U.tm 10=aI 0:=by rw[o,p];rfl
   have w2:qm.wrap (-1) = -1:=zWr;simp[go_sem,e7,P,e9,l,hm,C,hq,t,w1,w2];refine Keep.loop (j+1+d-(j+1)) zOm ⟨j+1,rfl,zOm,zS1 T,by simp[go_sem,e7],zS1 P,zSi,by simp[go_sem];omega,divN N r j % N,c1,c2,zSi,fun i J=>?_⟩
   grind
  .have l:U.tm 10=aI 1:=by rw[o,p];rfl
   have w2:qm.wrap (0)=0:=zWr;simp[go_sem,e7,P,e9,l,hm,C,hq,t,w1,w2];refine Keep.loop (j+1+d-(j+1)) zOm ⟨j+1,rfl,zOm,zS1 T,by simp[go_sem,e7],zS1 P,zSi,by simp[go_sem];omega,c0,divN N r j % N,c2,zSi,fun i J=>?_⟩
   grind
  .have l:U.tm 10=aI 2:=by rw[o,p];rfl
   have w2:qm.wrap (1)=1:=zWr;simp[go_sem,e7,P,e9,l,hm,C,hq,t,w1,w2];refine Keep.loop (j+1+d-(j+1)) zOm ⟨j+1,rfl,zOm,zS1 T,by simp[go_sem,e7],zS1 P,zSi,by simp[go_sem];omega,c0,c1,divN N r j % N,zSi,fun i J=>?_⟩
   grind
 .have a5:j=k:=by omega
  subst a5;have hn:¬(j:Int)<=(j:Int)-1:=zOm;have h3:(j:Int)<=3:=zOm;simp[go_sem,T,e7,o,hm,hn,h3];have a4:=YN N j r;have:=qmA (mu:=[.arr [aI c0,aI c1,aI c2]]) (b:=0) (cells:=[aI c0,aI c1,aI c2]) (ds:=digs N j r) rfl fun i J=>by
   have:=hc i zOm;rw[Nat.sub_self,yK]at this;rw[show [aI c0,aI c1,aI c2]=[c0,c1,c2].map aI from rfl,zw,this];rfl
  grind
def fitB(sc:Sc)(ds g:List Int):Bool:=allN (fun i=>decide (ud sc (gI ds i)=gI g i)) g.length
theorem qmC(sc)(g:GSc sc)(ds j)(hl:ds.length=j.length)(a0:j.length<=3)(hd:∀ d,d∈ds->0<=d/\d<=1000):qh qd 155 [eSc sc,lI ds,lI j] (aB (fitB sc ds j)):=by
 refine qSU call155 func155 rfl ?_;refine ql.up j.length (fun k U=>U.tm 1=lI ds/\U.tm 2=lI j/\U.tm 3 = .ip [lI sc.sC,aI sc.sN]/\U.tm 7=aI k/\∀ i,i<k->ud sc (gI ds i)=gI j i) ?_ ?_
 .simp [go_sem]
 rintro k U hk ⟨J,p,P,e7,hi⟩;by_cases l:k<j.length
 .have o:k<ds.length:=by omega
  have t:=hd ds[k] (qv o);obtain⟨d,C⟩:=Int.eq_ofNat_of_zero_le t.1;simp[go_sem,p,e7,l];refine tV zKr ?_;simp[go_sem,J,P,e7,o];have R:=ql9 sc g d zOm;rw[<-C]at R;refine t7 R (.zk (zF _) (.zs .nil)) ?_;have g1:gI ds k=ds[k]:=ju o;have g2:gI j k=j[k]:=ju l;by_cases T:ud sc ds[k]=j[k]
  .simp [go_sem,J,p,P,e7,l,T]
   refine⟨zWr,fun i a1=>?_⟩;by_cases h:i=k
   .grind
   grind
  .have hf:fitB sc ds j=false:=qh6 l (by grind)
   rw[hf];simp[go_sem,p,e7,l,T];exact .zsc _
 .have I:k=j.length:=by omega
  subst I;have hf:fitB sc ds j=true:=Ua.2 fun i h=>by grind
  rw[hf];simp[go_sem,p,e7];exact .zsc _
theorem Km(n)(i:0<n)(g:n<=20):∀ k r,∀ d,d∈digs n k r->0<=d/\d<=1000
 | 0,_,d,h=>by simp[digs]at h
 |k+1,r,d,h=>by
  rw[digs,List.mem_append]at h;rcases h with h|h
  .exact Km n i g k _ d h
  .rw [qQ]at h;subst h
   have j:=Int.emod_nonneg r (show n≠0 by omega);have l:=Int.emod_lt_of_pos r i;omega
def jY(sc:Sc)(g:List Int)(r:Nat):List Int:=((qr r).filter fun k:Nat=>fitB sc (digs (sumI sc.sC) g.length k) g).map fun k:Nat=>(k:Int)
theorem qmD(sc g r):jY sc g (r+1)=jY sc g r++(if fitB sc (digs (sumI sc.sC) g.length r) g then [(r:Int)] else []):=by
 unfold jY;rw[List.range_succ,List.filter_append,zh];by_cases h:fitB sc (digs (sumI sc.sC) g.length r) g=true<;>simp[h]
theorem qa1(sc g r):(jY sc g r).length<=r:=by
 grind [List.length_filter_le,fitB,digs,sumI,qr,List.length_range,jY]
theorem qa2(sc g r):(jY sc g r).Pairwise (·<·):=by
 unfold jY;rw[List.pairwise_map];exact(List.pairwise_lt_range.filter _).imp fun h=>zOm
theorem qmE(sc g r):∀ x,x∈jY sc g r->0<=x/\x<r:=fun x i=>by
 obtain⟨k,j,rfl⟩:=qn.1 i;have:=zK.1 (jM.1 j).1;omega
def y7(sc:Sc)(g:List Int):List Int:=jY sc g (sumI sc.sC ^ g.length).toNat
theorem qmF(sc)(g:GSc sc)(hp:0<sumI sc.sC)(i:List Int)(h1:1<=i.length)(h3:i.length<=3)(hs:∀ s,s∈i->0<=s/\s<sc.sC.length):qh qd 72 [eSc sc,lI i] (eRel ⟨i.length,y7 sc i⟩):=by
 have P:=g.sum sc.sC.length;rw[q8]at P;have a3:=Zl (sumI sc.sC) P.1 P.2 i.length h3;obtain⟨R,hR⟩:=Int.eq_ofNat_of_zero_le a3.1;have a4:y7 sc i=jY sc i R:=by rw[y7,hR];rfl
 refine qSV call72 func72 rfl ?_;have n1:¬(i.length:Int)<1:=zOm;have n3:¬(3:Int)<(i.length:Int):=zOm;simp[go_sem,n1,n3];refine ql.up i.length (fun k U=>U.tm 1=lI i/\U.tm 2 = .ip [lI sc.sC,aI sc.sN]/\U.tm 4 = .ptr 0 0/\U.tm 5=aI i.length/\U.tm 6=aI k/\U.mu=[.arr [aI 0,.lst true []]]) ?_ ?_
 .simp [go_sem]
 rintro k U hk ⟨e1,I,e4,C,e6,hm⟩;by_cases o:k<i.length
 .have a6:=hs i[k] (qv o)
  have m1:¬i[k]<0:=zOm;have m2:¬(sc.sC.length:Int)<=i[k]:=zOm;simp[go_sem,C,e6,hm,o];refine tV zKr ?_;simp[go_sem,e1,I,e4,C,e6,o,m1,m2]
  grind [yn]
 have T:k=i.length:=zOm;subst T;simp[go_sem,C,e6,hm];refine t8 (fun m U=>∃ k t l,m=R-k/\k<=R/\U.tm 1=lI i/\U.tm 2 = .ip [lI sc.sC,aI sc.sN]/\U.tm 4 = .ptr 0 0/\U.tm 5=aI i.length/\U.tm 7 = .ptr 1 0/\U.tm 8=aI (k:Nat) /\
  U.mu=[.arr [aI 0,.lst true []],.arr [aI i.length,t]]++l/\OwnF 2 ([.dead,.dead]++l) 1 t ((jY sc i k).map rI)) R ?_ ?_
 .exact ⟨0,.lst true [],[],zOm,zOm,zS1 e1,zS1 I,zS1 e4,zS1 C,zSi,zSi,zSi,by grind [jY,OwnF.nil]⟩
 rintro m U ⟨k,t,l,rfl,hk,e1,I,e4,C,e7,e8,hm,ho⟩;have ho:=ho.low (low:=[.dead,.dead]) (low':=[.arr [aI 0,.lst true []],.arr [aI i.length,t]]) rfl;simp[go_sem,I,C,e8,hm];refine t7 (qaX sc g i.length h3) (.zk (zF _) (.zs .nil)) ?_;rw[hR];by_cases o:k<R
 .simp [go_sem,I,C,e8,o]
  refine t7 (qmB sc g hp i.length h3 k zOm) (.zk (zF _) (.zs (.zs .nil))) ?_;simp[go_sem,e1,I];refine t7 (qmC sc g _ i (YN _ _ _) h3 (Km _ hp zOm _ _)) (.zk (zF _) (.zk (zx _) (.zk (zx _) .nil))) ?_;have a0:=qmD sc i k;have a7:=qa1 sc i k;cases hb:fitB sc (digs (sumI sc.sC) i.length k) i with
  |false =>
   rw[hb]at a0;simp[go_sem,e8];refine Keep.loop (R-(k+1)) zOm ⟨k+1,t,l,rfl,zOm,zS1 e1,zS1 I,zS1 e4,zS1 C,by simp[go_sem,e7],?_,zSi,?_⟩
   .simp [go_sem];grind [yn]
   grind
  |true =>
   rw[hb]at a0;simp[go_sem,e7,e8];refine fJ (low:=[.arr [aI 0,.lst true []],.arr [aI i.length,t]]) (e:=3) (bt:=8) (z:=0) (xs:=jY sc i k) (ys:=[(k:Int)]) zSi zSi zSi zOm ho (by simp[qy]) zSo ?_;intro a5 a1 a2;simp[go_sem,e7,e8,a2.cells,a2.one];refine Keep.loop (R-(k+1)) zOm ⟨k+1,a5,a1,rfl,zOm,zS1 e1,zS1 I,zS1 e4,zS1 C,by simp[go_sem,e7],?_,zSi,?_⟩
   .simp [go_sem];grind [yn]
   .rw [a0]
    simpa[go_sem] using a2.low (low':=[.dead,.dead]) rfl
 .have T:k=R:=by omega
  subst T;simp[go_sem,e4,e7,ho.one];rw[a4];exact Rd.rel (r:=⟨i.length,jY sc i k⟩) (ho.low (low:=[.arr [aI 0,.lst true []],.arr [aI i.length,t]]) (low':=[.arr [aI i.length,t],.arr [aI i.length,t]]) rfl).rdI
end G5
namespace GM
end GM
namespace GP
open P1 G5
def defB(ts:TS)(sc:Sc):List Bd:=ts.sA.map fun f=>⟨⟨f.sS.length,[]⟩,⟨f.sS.length,y7 sc f.sS⟩⟩
end GP
namespace GQ
def uR(sc:Sc):Bool:=decide (sc.sC.length<=4)&&(decide (1<=sc.sN)&&(decide (sc.sN<=4)&&(sc.sC.all (fun a=>decide (1<=a)&&decide (a<=5))&&decide (sumI sc.sC<=12))))
end GQ
namespace GR
open P1 E4 EO EQ F4 G5
section
variable {xs:List (List AV)}{mu:Mu}
theorem jN.ownB{P}{t g e sz bt:Nat}{s x ys zv K}(T:qD P t=some (e,sz,bt))(j:(qD P g).isSome=true)(U:qA P e=some zv)
  (l:zv.cells.length=sz) (o:zv.cells.all AV.one=true) (p:sz≠0) (hb:bt<=16384) (ho:Own mu sz s xs) (hx:qy mu x=some ys) (J:qS sz xs) (wy:qS sz ys) (R:xs.length+ys.length<=4294967296)
  (k:∀ av mu',Own mu' sz av (xs++ys)->(∀ i,i<mu.length->qo s≠some i->mu'[i]?=mu[i]?)->(∀ b,qo av=some b->b=mu.length)->mu.length<=mu'.length->(ys≠[]->∃ b,qo av=some b)->K av mu'):jN P mu #[t,g] s x K:=by
 refine⟨t,g,e,sz,bt,ys,rfl,T,j,⟨zv,U,l,o⟩,p,hb,hx,wy,?_⟩;rcases ho with rfl|⟨b,rfl,hc⟩
 .refine .inl ⟨xs,rfl,J,R,fun h=>?_,fun h=>?_⟩
  .subst h
   exact k _ _ (.inl zSp) (fun _ _ _=>rfl) (fun b h=>by cases h) (qk _) (fun h=>absurd rfl h)
  .refine k _ _ (.inr ⟨mu.length,zSp,zSp⟩) (fun i C _=>?_) (fun b h=>by cases h;rfl) zSp (fun _=>⟨_,rfl⟩)
   rw[qI C]
 .have a0:=yy J.ok
  refine .inr ⟨b,xs.length,xs.flatten,rfl,hc,zOm,R,?_⟩;have a1:xs.flatten.take (xs.length*sz)=xs.flatten:=zJ zOm;refine k _ _ (.inr ⟨mu.length,zSp,?_⟩) (fun i C I=>?_) (fun b h=>by cases h;rfl) zSp (fun _=>⟨_,rfl⟩)
  .grind
  .rw [qI (zUs C)]
   rw[z7 (fun e=>I (by rw[e];rfl))]
theorem cL{P}{t t' e sz bt:Nat}{s y}(j){zv full K}(R)(hs:qD P t=some (e,sz,bt))(o:(qD P t').isSome=true)(hz:qA P e=some zv)
  (p:zv.cells.length=sz) (C:zv.cells.all AV.one=true) (I:sz≠0) (l:bt<=16384) (ho:Own mu sz s xs) (J:∀ b,qo s=some b->b<R) (T:Rds (cutM (fun i=>decide (R<=i)) mu 0) y j) (wx:qS sz xs) (wy:qS sz [j]) (hl:xs.length+1<=4294967296)
  (k:∀ av mu',Own mu' sz av (xs++[j])->(∀ i,i<mu.length->i<R->qo s≠some i->mu'[i]?=mu[i]?)->(∀ b,qo av=some b->b=mu.length)->mu.length<=mu'.length->(∃ b,qo av=some b)->K av mu'):qu P mu #[t,t'] s (.lst full [y]) K:=by
 have cg:∀ i,i<R->(cutM (fun i=>!decide (R<=i)) mu 0)[i]?=mu[i]?:=fun i hi=>by
  simp_all[jy,yK,decide_eq_false,Bool.not_false,if_true]
 have g:Rd (cutM (fun i=>decide (R<=i)) mu 0) (.lst full [y]) (.lst full [j]):=by
  obtain⟨h1,h2⟩:=T.get;refine .lst full _ _ rfl (fun k a b ha l=>?_) (fun k a b ha l=>?_)
  .grind
  grind
 have U:Own (cutM (fun i=>!decide (R<=i)) mu 0) sz s xs:=by
  rcases ho with h|⟨b,h,hc⟩
  .exact .inl h
  .exact .inr ⟨b,h,by rw[cg b (J b (by rw[h];rfl))];exact hc⟩
 refine .inr (.inl ⟨_,_,g,jN.ownB hs o hz p C I l U rfl wx wy hl fun av mu' h1 h2 h3 h4 h5=>k av mu' h1 (fun i hi hR a0=>?_) (fun b l=>?_) ?_ (h5 zSp)⟩)
 .grind
 .grind [uE]
 grind [uE]
theorem Kn{C:Type}{f g}:∀{l:List C},(∀ a,a∈l->Rds mu (f a) (g a))->∀(k:Nat) x y,(l.map f).flatten[k]?=some x->(l.map g).flatten[k]?=some y->Rd mu x y
 | [],_,k,x,y,i,_=>by simp at i
 |a :: l,h,k,x,y,i,j=>by
  obtain⟨o,p⟩:=(h a (zj ..)).get;simp only[zd,List.flatten_cons]at i j;by_cases t:k<(f a).length
  .rw [qI t]at i
   rw[zGa]at j;exact p k x y i j
  .rw [zN zOm]at i
   rw[zN zOm,o]at j;exact Kn (fun b I=>h b (qU _ I)) _ x y i j
theorem cZ{C:Type}{sz av f g}{l:List C}(h:Own mu sz av (l.map f))(wf:ja sz (l.map f))(j:ja sz (l.map g))(p:∀ a,a∈l->Rds mu (f a) (g a)):Rd mu av (.lst false (l.map g)):=by
 rcases h with rfl|⟨b,rfl,t⟩
 .refine .wk _ true _ (.lst true _ _ zSp (fun k x y i o=>?_) (Kn p))
  rw[wf x (qX i),j y (qX o)]
 .refine .sl b sz 0 _ _ _ t (zW1 (yy wf)) zSp j (fun k x y i o=>?_)
  rw[yK]at i
  grind [Kn]
theorem Ko:∀{l},l≠[]->(∀ a,a∈l->1<=a)->1<=sumI l
 | [],h,_=>absurd rfl h
 | [a],_,h=>by simp_all[sumI]
 |a :: b :: l,_,h=>by
  have j:=h a zSp;have g:=Ko (l:=b :: l) zSp fun x i=>h x (qU _ i)
  simp only[sumI,List.foldr_cons]at g⊢;omega
structure Fit9 (ts:TS) (sc:Sc):Prop where
 g:GSc sc
 p:ts.sA≠[]->0<sumI sc.sC
 nf:ts.sA.length<=6
 ns:ts.sS.length=sc.sC.length
 s1:1<=sc.sN
 s4:sc.sN<=4
 f1:∀ f,f∈ts.sA->1<=f.sS.length/\f.sS.length<=3
 fs:∀ f,f∈ts.sA->∀ s,s∈f.sS->0<=s/\s<sc.sC.length
theorem Fit9.pf{ts sc}(F:Fit9 ts sc){f}(hf:f∈ts.sA):0<sumI sc.sC:=F.p fun e=>by rw[e]at hf;exact absurd hf qN
def rowD(sc:Sc)(f:Fld):List AV:=[aI f.sS.length,.lst true [],aI f.sS.length,lI (y7 sc f.sS)]
theorem Kq(sc)(l:List Fld):qS 4 (l.map (rowD sc)):=fun r g=>by
 obtain⟨n,_,rfl⟩:=qn.1 g;exact⟨rfl,rfl⟩
theorem qa3{R sz av}(h:Own mu sz av xs)(g:∀ b,qo av=some b->R<=b):Own (cutM (fun i=>decide (R<=i)) mu 0) sz av xs:=by
 rcases h with h|⟨b,h,j⟩
 .exact .inl h
 .refine .inr ⟨b,h,?_⟩
  rw[jy,j];simp[g b (by rw[h];rfl)]
end
end GR
namespace GS
open P1 GB
def fixS(g:List Bool)(i l:List Rl)(j:Nat):List Rl:=l.mapIdx fun f r=>if f<j/\g.getD f true=false then i.getD f noR else r
theorem qmG(i j g):fixS i j g 0=g:=by
 refine j7 fun f=>?_
 simp[fixS]
theorem qmH(i l g j):(fixS i l g j).length=g.length:=by simp[fixS]
theorem qmI(i o g j)(h:j<g.length):fixS i o g (j+1)=if i.getD j true=false then (fixS i o g j).set j (o.getD j noR) else fixS i o g j:=by
 refine j7 fun f=>?_
 by_cases l:i.getD j true=false
 .rw [if_pos l,List.getElem?_set]
  simp only[fixS,List.getElem?_mapIdx,List.length_mapIdx];by_cases hf:j=f
  .subst hf
   rw[if_pos rfl,if_pos h,qw h];simp only[zg,Nat.lt_succ_self,l,and_self,if_true]
  .rw [if_neg hf]
   cases g[f]? with
   |none=>rfl
   |some r=>simp only[zg];congr 1;by_cases p:f<j<;>simp[p,show (f<j+1)=(f<j) by simp;omega]
 .rw [if_neg l]
  simp only[fixS,List.getElem?_mapIdx];cases g[f]? with
  |none=>rfl
  |some r =>
   simp only[zg];congr 1;by_cases hf:f=j
   .subst hf;rw[if_neg (fun h=>l h.2),if_neg (fun h=>l h.2)]
   .by_cases p:f<j<;>simp[p,show (f<j+1)=(f<j) by simp;omega]
abbrev vsT(ts:TS):List Bool:=ts.sA.map fun f=>f.var
end GS
namespace GG
@[go_sem ↓] theorem qu6(P pl l Q o k r T st i op ty pos after j g) :
  segO P pl l Q o k r T st (some ⟨i,op,ty,pos,after,some (j,g)⟩)=JF ((l[j]?).bind (·.dst)) st g (fun st=>segO P pl l Q o k r T st (some ⟨i,op,ty,pos,after,none⟩)) (fun st=>awpT P pl l.toArray Q o T (st.put i (.sc uk) st.mu)):=by
 simp only[segO,yE,JF,List.getElem?_toArray]
 grind [brK,BrS,OptK,Br]
end GG
namespace GH
end GH
namespace GU
abbrev Ch:=Int×Int×Int
def selT(g:List Ch)(s f:Nat):List Int:=(g.filter fun c:Ch=>decide (c.1=(s:Int))&&decide (c.2.1=(f:Int))).map fun c=>c.2.2
end GU
namespace GN
open E3
instance:DecidableEq Sc:=fun a b=>decidable_of_iff (a.sC=b.sC/\a.sN=b.sN) (by
 obtain⟨a1,a2⟩:=a;obtain⟨b1,b2⟩:=b;simp)
instance:DecidableEq Md:=fun a b=>decidable_of_iff (a.sc=b.sc/\a.sK=b.sK/\a.loop=b.loop) (by
 obtain⟨a1,a2,a3⟩:=a;obtain⟨b1,b2,b3⟩:=b;simp)
end GN
namespace GV
end GV
namespace GW
open P1 E9 EW GA G5
theorem qa4:∀ l x i,0<=x->uc l x i = -1\/∃(j:Nat) (h:j<l.length),uc l x i=i+j/\0<=x-sumI (l.take j)/\x-sumI (l.take j)<l[j]
 | [],x,i,_ => .inl rfl
 |a :: l,x,i,h=>by
  rw[uc];by_cases g:x<a
  .grind [sumI]
  .rw [if_neg g]
   rcases qa4 l (x-a) (i+1) zOm with e|⟨j,o,p,t,C⟩
   .exact .inl e
   .refine .inr ⟨j+1,zUs o,by rw[p];push_cast;omega,?_,?_⟩
    .simp only[List.take_succ_cons,sumI,List.foldr_cons]at t⊢;omega
    .simp only[List.take_succ_cons,sumI,List.foldr_cons,List.getElem_cons_succ]at C⊢;omega
def yT(n:Int)(ds:List Int)(p:Int):Int:=ds.foldl (fun p d=>p*n+d) p
theorem qa5(n)(i:0<n):∀ k r,0<=r->r<n ^ k->yT n (digs n k r) 0=r
 | 0,r,j,g=>by
  have:r=0:=by rw[Int.pow_zero]at g;omega
  subst this;rfl
 |k+1,r,j,g=>by
  have l:r / n<n ^ k:=Int.ediv_lt_of_lt_mul i (by rw[<-Int.pow_succ];exact g);rw[digs,yT,uz];show yT n (digs n k (r / n)) 0*n+r % n=r;rw[qa5 n i k (r / n) (Int.ediv_nonneg j zOm) l,Int.mul_comm];exact Int.mul_ediv_add_emod r n
theorem qa6(sc)(P:∀ a,a∈sc.sC->0<=a):∀(l ds:List Int)(p),ds.length=l.length->(∀ s,s∈l->0<=s)->(∀(i h)(h2:i<l.length),0<=ds[i]/\ud sc ds[i]=l[i])->yT (sumI sc.sC) ds p∈tupR sc l p
 | [],[],p,_,_,_=>by simp[tupR,yT]
 |s :: l,d :: ds,p,o,J,h=>by
  rw[tupR,wO];obtain⟨t,g⟩:=h 0 zSp zSp;simp only[List.getElem_cons_zero]at t g;have R:=J s zSp;rcases qa4 sc.sC d 0 t with e|⟨j,T,U,e2,e3⟩
  .rw [ud,e]at g;omega
  .rw [ud,U]at g
   have C:s.toNat=j:=zOm;have hg:gI sc.sC s.toNat=sc.sC[j]:=by rw[C];exact ju T
   refine⟨(d-sumI (sc.sC.take j)).toNat,zK.2 (by rw[hg];omega),?_⟩;have:=qa6 sc P l ds (p*sumI sc.sC+d) (zUs o) (fun s hs=>J s (zP1 hs)) (fun i hi I=>h (i+1) (zUs hi) (zUs I));rw[C,show sumI (sc.sC.take j)+((d-sumI (sc.sC.take j)).toNat:Int)=d by omega];exact this
 | [],_ :: _,_,o,_,_=>by simp at o
 |_ :: _,[],_,o,_,_=>by simp at o
theorem qmJ(sc)(g:GSc sc)(C:0<sumI sc.sC)(l:List Int)(J:l.length<=3)(P:∀ s,s∈l->0<=s/\s<sc.sC.length):∀ x,x∈y7 sc l->x∈tupR sc l 0:=fun x I=>by
 have j:=g.sum sc.sC.length;rw[q8]at j;have R:=Zl (sumI sc.sC) j.1 j.2 l.length J;unfold y7 jY at I;obtain⟨r,T,rfl⟩:=qn.1 I;obtain⟨U,h2⟩:=jM.1 T;rw[zK]at U;have o:(r:Int)<sumI sc.sC ^ l.length:=zOm;have hf:=qa5 (sumI sc.sC) C l.length r zOm o;have hm:=qa6 sc (fun a ha=>(g.2 a ha).1) l (digs (sumI sc.sC) l.length r) 0 (YN _ _ _) (fun s p=>(P s p).1) (fun i hi t=>?_)
 .grind
 .have hd:=Km (sumI sc.sC) C j.2 l.length r _ (qv hi)
  refine⟨hd.1,?_⟩;have:=Ua.1 h2 i t
  grind [ju]
structure BndV (ts:TS) (sc:Sc) (bs:List Bd):Prop where
 len:bs.length=ts.sA.length
 lo:∀(i:Nat)(h:i<bs.length)(h2:i<ts.sA.length),bs[i].lo.ar=ts.sA[i].sS.length/\bs[i].up.ar=ts.sA[i].sS.length
 so:∀ b,b∈bs->b.lo.ts.Pairwise (·<·)/\b.up.ts.Pairwise (·<·)
 sub:∀ b,b∈bs->∀ t,t∈b.lo.ts->t∈b.up.ts
 full:∀(i:Nat)(h:i<bs.length)(h2:i<ts.sA.length),∀ t,t∈bs[i].up.ts->t∈y7 sc ts.sA[i].sS
theorem qa7(sc l):∀ t,t∈y7 sc l->0<=t/\t<(sumI sc.sC ^ l.length).toNat:=fun t g=>qmE _ _ _ t g
theorem qmK(sc)(g:GSc sc)(l)(j:l.length<=3):(y7 sc l).length<=8000:=by
 have i:=g.sum sc.sC.length;rw[q8]at i;have o:=Zl (sumI sc.sC) i.1 i.2 l.length j;refine zH (qa1 _ _ _) ?_;omega
theorem qmL{a b:List Int}(g:a.Pairwise (·<·))(h:∀ t,t∈a->t∈b):a.length<=b.length:=ji (qjQ g) h
end GW
end Go.Proofs.YthflbhjlkgdafaaGreatDoor
