/-
  Own library, part 6: an abstract reading of values and a calculus over it; contracts of functions; plain lemmas.
-/
import Derived.Lib.ItoaLen
import Derived.Test.YtipbakanneogpaaGreatDoorMe
set_option linter.unusedVariables false
set_option linter.unusedSimpArgs false
set_option maxRecDepth 100000
open Go renaming Program->qc,TypeId->qd,FuncId->qU
open Go.Proofs.Tryz renaming prog->qb
open List renaming getElem?_eq_some_iff->qj,mem_map->qm,getElem_mem->qp,range->qt,mem_cons->qw,getElem?_eq_getElem->qz,not_mem_nil->qH,mem_append->qJ,getElem?_set_self->qL,getElem?_append_left->qM,take_length->qO,mem_singleton->qT,replicate->qY,mem_of_getElem?->qZ,length_append->q8,mem_cons_of_mem->za,map_append->zb,getElem?_map->zi,mem_cons_self->zj,drop_eq_getElem_cons->zp,append_assoc->zt,length_cons->zz,length_map->zA,getD_eq_getElem?_getD->zE,getElem?_append_right->zG,append_nil->zJ,take_of_length_le->zQ,map_cons->zS,drop_length->zW,mem_range->z7,getElem?_set_ne->yA,cons_append->yP,mem_of_mem_take->jC,ext_getElem?->jL,take_append_drop->vC,take_succ_eq_append_getElem->vJ,getElem?_cons_succ->vK,foldl_append->vL,length_take->vO,getD_cons_zero->uz,mem_flatMap->wS,getElem?_range->wT
open Go.IntKind renaming i64->qo
open Nat renaming le_refl->qr,le_trans->zL,zero_add->yd
open Option.some renaming injEq->qu
open Bool renaming and_eq_true->qE,eq_iff_iff->jM,or_eq_true->wU
open Option renaming map_some->zn,map_eq_some_iff->jK
open Int renaming le_refl->vM
namespace Go.Proofs.YtipbakanneogpaaGreatDoor
open Go Go.Ev Go.Proofs Tryz
namespace F6
open Y1 Y10 P1 YF E3 EA EO EP EQ ER EW F1 F2 F3 F4 F5
section
variable {nm:tM}{env:List (tM×Int)}{st:St}{Q:qW->St->Prop}
theorem backU(l):qh qb 220 [lPm l] (.fn (.func 244) [] [.ip [lPm l]]):=by
 refine qSU call220 func220 rfl ?_;exact .hf _ (HF.fn zSp (by simp;exact jd (uh _)))
def Zo(l:List (tM×Int)):List (List AV):=(qt l.length).map fun k:Nat=>[aI ((l.length-1-k:Nat):Int),.agg (cPm (l.getD (l.length-1-k) (⟨#[]⟩,0)))]
theorem qnG(l)(hl:l.length<=1000000000):ja qb 244 [.ip [lPm l]] (Zo l):=by
 refine ja.of call244 fun i I Ix hS hX hY C h0=>?_
 refine qSW call244 func244 rfl {} ?_;have a0:(Zo l).length=l.length:=by simp[Zo]
 have w0:qo.wrap ((l.length:Int)-1)=(l.length:Int)-1:=zWr;simp[go_sem,w0];refine aK l.length (fun k U=>U.tm 0 = .yl i/\U.tm 1 = .ip [lPm l]/\U.tm 3=aI ((l.length:Int)-1-k)/\I k U.mu) ?_ ?_
 .simp [go_sem, *]
 rintro k U hk ⟨T,e1,t,hI⟩;by_cases g:k<l.length
 .have hj:((l.length:Int)-1-k)=((l.length-1-k:Nat):Int):=by omega
  have o:l.length-1-k<l.length:=zOm;have hw:qo.wrap (((l.length-1-k:Nat):Int)-1)=(l.length:Int)-1-((k+1:Nat):Int):=by grind [zT]
  have p:(0:Int)<=((l.length-1-k:Nat):Int):=zOm;have r:(Zo l)[k]?=some [aI ((l.length-1-k:Nat):Int),.agg (cPm l[l.length-1-k])]:=by
   rw[Zo,zi,wT g];simp[zE,qz o]
  rw[hj]at t;generalize l.length-1-k=j at *
  simp[go_sem,T,e1,t,p,o];refine qe.yield (hY _ _ _ r hI) ?_;rintro b a1 (⟨rfl,J⟩|⟨rfl,P⟩)
  .simp [go_sem,t,hw]
   exact⟨g,aA ⟨zS1 T,zS1 e1,zSi,zVs J⟩⟩
  .simp [go_sem]
   exact .inr P
 .have R:k=l.length:=by omega
  subst R;rw[show (l.length:Int)-1-l.length = -1 by omega]at t;simp[go_sem, *]
theorem KH(nm):∀(l:List (tM×Int))(r),(∀ e,e∈l->e.1≠nm)->l.foldl (fun r e=>if e.1=nm then some e.2 else r) r=r
 | [],r,_=>rfl
 |e :: l,r,h=>by rw[List.foldl_cons,if_neg (h e zSp)];exact KH nm l r fun x g=>h x (zP1 g)
theorem qnH(h:∀ e,e∈env->e.1≠nm):ZU nm env=none:=KH nm env none h
theorem qnI{j}(g)(i:env[j].1=nm)(h:∀ e,e∈env.drop (j+1)->e.1≠nm):ZU nm env=some env[j].2:=by
 have e:env=env.take j++env[j] :: env.drop (j+1):=by rw[<-zp g,vC]
 unfold ZU
 conv=>lhs;rw[e]
 rw[vL,List.foldl_cons,if_pos i];exact KH nm _ _ h
theorem qnJ(fs:List Fld)(g:List Rl)(nm k h)(i:k<g.length):vW (fs.take (k+1)) (g.take (k+1)) nm=vW (fs.take k) (g.take k) nm++(if fs[k].name=nm then [g[k]] else []):=by
 unfold vW;rw[yc h,yc i,List.zip_append zSo,List.filterMap_append];congr 1;by_cases e:fs[k].name=nm<;>simp[e]
theorem qa4(fs g nm):(vW fs g nm).length<=fs.length:=by
 grind [vW,zL,List.length_filterMap_le,List.length_zip]
def Zp(x:Mo)(nm:tM)(i:Nat)(s:tM×Bool):List Rl:=(if s.1=nm then [⟨1,zD x i⟩] else [])++((if s.2=true/\s.1++jb=nm then [⟨1,(zD x i).take 1⟩] else [])++(if s.2=true/\s.1++j9=nm then [⟨2,Qk x i⟩] else []))
theorem qa5(x nm):∀ a b i,jc x nm i (a++b)=jc x nm i a++jc x nm (i+a.length) b
 | [],b,i=>rfl
 |s :: a,b,i=>by
  rw[yP,jc,jc,qa5 x nm a b (i+1),zz,show i+1+a.length=i+(a.length+1) by omega];simp only[zt]
theorem qa6(x nm)(so:List (tM×Bool))(k h):jc x nm 0 (so.take (k+1))=jc x nm 0 (so.take k)++Zp x nm k so[k]:=by
 rw[yc h,qa5,vO,Nat.min_eq_left zOm,yd,jc];simp[Zp,jc]
theorem qnK(x nm i s):(Zp x nm i s).length<=3:=by
 grind [Zp,q8]
theorem qa7(x nm)(so:List (tM×Bool)):∀ k,k<=so.length->(jc x nm 0 (so.take k)).length<=3*k
 | 0,_=>by simp[jc]
 |k+1,h=>by
  rw[qa6 x nm so k zOm,q8];have:=qa7 x nm so k zOm;have:=qnK x nm k so[k];omega
theorem qnL(sc)(i:Nat):tupR sc [(i:Int)] 0=(qt (gI sc.sC i).toNat).map fun k:Nat=>sumI (sc.sC.take i)+k:=by
 rw[tupR];simp only[tupR,Int.zero_mul,Int.zero_add,show (i:Int).toNat=i by omega];exact List.map_eq_flatMap.symm
theorem cT{i d L x}(g:Rd (cutM (fun j=>decide (L<=j)) st.mu 0) (st.tm d) x)(k:Q (.exit i) (st.put (some d) x (cutM (fun j=>!decide (L<=j)) st.mu 0))):FzQ Q (.exit i) st:=by
 refine⟨_,⟨fun j=>decide (L<=j),rfl,fun j=>?_⟩,trivial,k⟩;simp only[St.put];split
 .rename_i h;subst h;exact .rd _ _ g
 .exact .same _
def bR:Nat->Int
 | 0=>0
 |k+1=>bR k*20+20
theorem bR_ok:∀ k,k<=3->bR k<=100000
 | 0,_=>zDe
 | 1,_=>zDe
 | 2,_=>zDe
 | 3,_=>zDe
def un(n:Int)(tuple:List Int):Int:=tuple.foldl (fun o t=>o*n+t) 0
theorem qnM(n)(tuple:List Int)(k h):un n (tuple.take (k+1))=un n (tuple.take k)*n+tuple[k]:=by
 rw[List.take_add_one,qz h,un,un,vL];rfl
theorem rankU(sc)(g:GSc sc)(tuple)(ht:tuple.length<=3)(hd:∀ d,d∈tuple->0<=d/\d<sumI sc.sC):qh qb 222 [eSc sc,lI tuple] (aI (un (sumI sc.sC) tuple)):=by
 refine qSV call222 func222 rfl ?_;simp[go_sem,show ¬(3:Int)<tuple.length by omega];refine tK (Yw sc g) (.zk (zr sc) .nil) ?_;have o:=g.sum sc.sC.length;rw[qO]at o;generalize sumI sc.sC=n at *
 simp[go_sem];refine qk.up tuple.length (fun k U=>U.tm 5=aI n/\U.tm 14=lI tuple/\U.tm 15=aI tuple.length/\U.tm 6=aI (un n (tuple.take k))/\U.tm 16=aI k/\U.mu=[]/\0<=un n (tuple.take k)/\un n (tuple.take k)<=bR k) ?_ ?_
 .simp [go_sem,un,bR]
 rintro k U hk ⟨P,p,j,R,l,T,t,C⟩;by_cases i:k<tuple.length
 .have I:=hd _ (qp i)
  have hs:=qnM n tuple k i;have hb:=bR_ok k zOm;have a0:bR (k+1)=bR k*20+20:=rfl;generalize a1:un n (tuple.take k)=r at *
  have m0:0<=r*n:=Int.mul_nonneg t zOm;have m1:r*n<=bR k*20:=Int.mul_le_mul C zOm zOm zOm;have hw:qo.wrap (n-1)=n-1:=zWr;simp[go_sem,P,p,j,l,T,i,hw];refine tK (UE tuple[k] 0 (n-1)) (.zs (.zs (.zs .nil))) ?_;simp[go_sem,P,p,j,R,l,i,I.1,show tuple[k]<=n-1 by omega];rw[hs,zT (n:=r*n) zOm zOm,zT (n:=r*n+tuple[k]) zOm zOm,zT (n:=(k:Int)+1) zOm zOm];omega
 .have J:k=tuple.length:=by omega
  subst J;simp[go_sem,j,R,l,T];exact .zsc _
theorem BrS.join{P pl b A B K}(J)(j:b=true->awp P pl A (seqQ (fun st=>Keep J .mk st) Q) st)(l:b=false->awp P pl B (seqQ (fun st=>Keep J .mk st) Q) st)(o:∀ st,J st->K st) :
  BrS b (awp P pl A (seqQ K Q)) (awp P pl B (seqQ K Q)) st:=by
 refine tS (fun h=>awp.mono A (j h) fun e st g=>?_) (fun h=>awp.mono B (l h) fun e st g=>?_)
 all_goals cases e with
  |normal=>exact o st g
  |exit i=>exact g
  |ret=>exact g
  |pan v=>exact g
theorem cK{b p q}(J:St->Prop)(h:J st)(k:∀ st,J st->BrS b p q st):BrS b p q st:=k st h
def FndM(mu:Mu)(s:AV)(F:List Rl):Prop:=mu[0]?=some (.arr [aI 0,.lst true []])/\Own mu 2 s (F.map cRel)/\qn s≠some 0
theorem cA{full}(l):WK (.lst full (l.map rI)) (lI l):=WK.lst fun r g c i=>by
 obtain⟨n,_,rfl⟩:=qm.1 g
 grind [HF.sc]
structure SInv (x:Mo) (nm sn:tM) (sb:Bool) (k c d:Nat) (F:List Rl) (st:St):Prop where
 e0:st.tm 0=eMa x
 e5:st.tm 5 = .ip [aS nm]
 e6:st.tm 6 = .ptr 0 0
 e13:st.tm 13 = .ptr c 0
 e14:st.tm 14 = .ptr d 0
 e65:st.tm 65=lSo x.ts.sS
 e66:st.tm 66=aI x.ts.sS.length
 e67:st.tm 67=aI k
 g0:st.mu[0]?=some (.arr [aI 0,.lst true []])
 gc:st.mu[c]?=some (.arr [aS sn,aB sb])
 gd:st.mu[d]?=some (.arr [aI 1,lI (zD x k)])
 ho:Own st.mu 2 (st.tm 9) (F.map cRel)
 n0:qn (st.tm 9)≠some 0
 nc:qn (st.tm 9)≠some c
 nd:qn (st.tm 9)≠some d
structure SNew (c d:Nat) (F:List Rl) (av:AV) (mu:Mu):Prop where
 g0:mu[0]?=some (.arr [aI 0,.lst true []])
 ho:Own mu 2 av (F.map cRel)
 n0:qn av≠some 0
 nc:qn av≠some c
 nd:qn av≠some d
theorem SInv.app{t o}(P:qI qb t=some (96,2,32))(j:(qI qb o).isSome=true){x nm p C k c d F st}(h:SInv x nm p C k c d F st)(hl:F.length<=100)(r){I}(R:qD st.mu I=some [cRel r]){K}
  (T:∀ av mu',SNew c d (F++[r]) av mu'->mu'[c]?=some (.arr [aS p,aB C])->mu'[d]?=some (.arr [aI 1,lI (zD x k)])->K av mu'):qy qb st.mu #[t,o] (st.tm 9) I K:=by
 have U:=(qj.1 h.gc).1;have ld:=(qj.1 h.gd).1;have l0:=(qj.1 h.g0).1;refine qy.ownB (e:=96) (sz:=2) (bt:=32) (zv := .agg [aI 0,.lst true []]) (xs:=F.map cRel) (ys:=[cRel r]) P j zSi rfl rfl zOm zOm h.ho R (vF _) (vF [r]) zSo ?_;intro l mu' a0 j a1 a2;refine T l mu' ⟨by rw[j 0 l0 h.n0];exact h.g0,by grind,fun e=>by grind,fun e=>by grind,fun e=>by grind⟩ (by rw[j c U h.nc];exact h.gc) (by rw[j d ld h.nd];exact h.gd)
theorem appR{t o}(C:qI qb t=some (96,2,32))(j:(qI qb o).isSome=true){mu s F}(h:FndM mu s F)(hl:F.length<=100)(r){p}(I:qD mu p=some [cRel r]){K}
  (P:∀ av mu',FndM mu' av (F++[r])->K av mu'):qy qb mu #[t,o] s p K:=by
 have R:=(qj.1 h.1).1;refine qy.ownB (e:=96) (sz:=2) (bt:=32) (zv := .agg [aI 0,.lst true []]) (xs:=F.map cRel) (ys:=[cRel r]) C j zSi rfl rfl zOm zOm h.2.1 I (vF _) (vF [r]) zSo ?_;intro l mu' T j U a0;exact P l mu' ⟨by rw[j 0 R h.2.2];exact h.1,by grind,fun e=>by grind⟩
theorem qnN(x N)(hM:OkMa x N)(nm p)(hp:OkP x N p)(hq:p.env.length<=1000000) :
  qX qb 182 [eMa x,ePl p,aS nm] (endE (Yv x p nm)):=by
 refine zh.of_sound ?_;refine qSW call182 func182 rfl {} ?_;have dt:=zV x;generalize hE:Yv x p nm=E;unfold Yv at hE;simp[go_sem];refine fR (backU p.env) (.zk (uh _) .nil) ?_;refine tN (qnG p.env zOm) (fun k M=>(∃ o,M = .arr [aI 0,.lst true []] :: o)/\∀ e,e∈p.env.drop (p.env.length-k)->e.1≠nm) (fun e M=>e = .ret/\∃ a o,ZU nm p.env=some a/\M = .arr [aI 1,.lst true [[aI a]]] :: o) ?_ ?_ ?_ ?_ ?_ ?_
 .simp_all [qB,yP]
 .simp
 .grind
 .rintro k y M hk ⟨⟨o,rfl⟩,h⟩
  have bs:k<p.env.length:=by
   grind [qj,Zo]
  have a8:p.env.length-1-k<p.env.length:=zOm;rw[Zo,zi,wT bs]at hk;simp only[zn,qu,zE,qz a8,Option.getD_some]at hk;subst hk;have bu:p.env.length-k=p.env.length-1-k+1:=zOm;rw[bu]at h;have b7:=fun he=>qnI a8 he h
  have C:p.env.drop (p.env.length-(k+1))=p.env[p.env.length-1-k] :: p.env.drop (p.env.length-1-k+1):=by
   grind [zp]
  generalize hb:p.env[p.env.length-1-k]=b at *
  refine⟨rfl,?_⟩;by_cases he:b.1=nm
  .simp [go_sem,he]
   exact tP ⟨rfl,b.2,_,b7 he,rfl⟩
  .simp [go_sem,wA,he]
   refine tP ⟨⟨_,rfl⟩,fun e hm=>?_⟩;rw[C]at hm;rcases qw.1 hm with rfl|hm
   .exact he
   grind
 .rintro M ⟨⟨o,rfl⟩,h⟩
  have bv:ZU nm p.env=none:=qnH fun e hm=>h e (by simpa[Zo] using hm)
  rw[bv]at hE;simp only at hE;obtain⟨bw,ca⟩:=hM.st p.st hp.st;have ao:p.st<x.m.sK.length:=zW2 hM.len hp.st;have cb:x.m.sK.getD p.st []=x.m.sK[p.st]:=by rw[zE,qz ao];rfl
  have du:=hM.ts.nf;have dv:=hM.ts.ns;have b8:=qa4 x.ts.sA (x.m.sK.getD p.st []) nm;rw[cb]at hE bw ca b8;generalize cc:x.m.sK[p.st]=rs at *
  simp[go_sem];refine aK x.ts.sA.length (fun k U=>U.tm 0=eMa x/\U.tm 4 = .ip (cPl p)/\U.tm 5 = .ip [aS nm]/\U.tm 6 = .ptr 0 0/\U.tm 34=lFl x.ts.sA/\U.tm 35=aI x.ts.sA.length/\U.tm 36=aI k/\FndM U.mu (U.tm 9) (vW (x.ts.sA.take k) (rs.take k) nm)) ?_ ?_
  .exact ⟨zSi,zSi,zSi,zSi,zSi,zSi,zSi,zSi,.inl (by simp[go_sem,vW]),by simp[go_sem,qn]⟩
  rintro k U hk ⟨e0,e4,e5,e6,af,a9,ag,g0,ho,hn⟩;by_cases P:k<x.ts.sA.length
  .have aa:k<rs.length:=by omega
   have w1:=zWk k;have hs:=qnJ x.ts.sA rs nm k P aa;have dw:(vW (x.ts.sA.take k) (rs.take k) nm).length<=6:=zL (qa4 _ _ _) zSo;have l0:0<U.mu.length:=(qj.1 g0).1;by_cases he:x.ts.sA[k].name=nm
   .rw [if_pos he]at hs
    simp[go_sem,e5,af,a9,ag,P,he];refine cL zKr ?_;simp[go_sem,e0,e4,ao,cc,aa];refine qy.ownB (e:=96) (sz:=2) (bt:=32) (zv := .agg [aI 0,.lst true []]) (xs:=(vW (x.ts.sA.take k) (rs.take k) nm).map cRel) (ys:=[cRel rs[k]]) zSi zSi zSi rfl rfl zOm zOm (Own.push ho _) (by simp[qD]) (vF _) (vF [rs[k]]) zSo ?_;intro ah a3 ab ax b9 cd;have k0:a3[0]?=some (.arr [aI 0,.lst true []]):=by
     grind
    have m0:qn ah≠some 0:=fun e=>by grind
    simp[go_sem,ag,P,w1];refine aA ⟨zS1 e0,zS1 e4,zS1 e5,zS1 e6,zS1 af,zS1 a9,zSi,zVs k0,?_,zVs m0⟩;simp[go_sem, *]
   .rw [if_neg he,zJ]at hs
    simp[go_sem,wA,e5,af,a9,ag,P,he,w1];refine aA ⟨zS1 e0,zS1 e4,zS1 e5,zS1 e6,zS1 af,zS1 a9,zSi,?_,?_,zVs hn⟩
    .grind [qB,qM]
    simp_all[go_sem,Own.push]
  .have ai:k=x.ts.sA.length:=by omega
   rw[zQ zOm,zQ zOm]at ho;generalize vW x.ts.sA rs nm=F at *
   simp[go_sem,e0,a9,ag,ai];refine fB x.ts.sS.length (fun k=>Keep (fun U=>U.tm 0=eMa x/\U.tm 5 = .ip [aS nm]/\U.tm 6 = .ptr 0 0/\U.tm 65=lSo x.ts.sS/\U.tm 66=aI x.ts.sS.length/\U.tm 67=aI k/\FndM U.mu (U.tm 9) (F++jc x nm 0 (x.ts.sS.take k))) .mk) ?_ ?_
   .exact aA ⟨zS1 e0,zS1 e5,zS1 e6,zSi,zSi,zSi,zVs g0,by simpa[go_sem,jc] using ho,zVs hn⟩
   rintro k U hk ⟨e0,e5,e6,bb,ay,az,g0,ho,hn⟩;have dx:=qa7 x nm x.ts.sS k hk;by_cases P:k<x.ts.sS.length
   .have w1:=zWk k
    have hs:=qa6 x nm x.ts.sS k P;have bc:=hM.ts.sl _ (qp P);have be:k<x.m.sc.sC.length:=zW1 hM.al;have a5:=X3 x.m.sc hM.gsc hM.pos [(k:Int)] (fun s hs=>by rw[qT]at hs;omega) zSp zSp;rw[qnL]at a5;have cf:zD x k=(qt (gI x.m.sc.sC k).toNat).map fun j:Nat=>sumI (x.m.sc.sC.take k)+j:=rfl
    rw[<-cf]at a5;have cg:WKs [eSc x.m.sc,.lst true [rI k]] [eSc x.m.sc,lI [(k:Int)]] := .zk (zr _) (.cons (cA [(k:Int)]) .nil);generalize ch:x.ts.sS[k]=so at *
    obtain⟨sn,sb⟩:=so;have cj:sn.size<=9223372036854775801:=by simp at bc;omega
    have ck:sn.size<=9223372036854775802:=by simp at bc;omega
    generalize hF:F++jc x nm 0 (x.ts.sS.take k)=F0 at *
    have aq:F++jc x nm 0 (x.ts.sS.take (k+1))=F0++Zp x nm k (sn,sb):=by rw[hs,<-hF,zt]
    have dy:F0.length<=18:=by rw[<-hF,q8];omega
    have l0:0<U.mu.length:=(qj.1 g0).1;simp[go_sem,e0,bb,ay,az,P,ch];refine tK a5 cg ?_;simp[go_sem,wA,e5];generalize hL:U.mu.length=L at *
    have ar:∀ b,qn (U.tm 9)=some b->b<L:=fun b hb=>zW1 (Own.lt ho hb)
    have b0:∀ c,Own (U.mu++c) 2 (U.tm 9) (F0.map cRel):=fun c=>Own.push ho c
    have aj:U.mu[0]'(qj.1 g0).1 = .arr [aI 0,.lst true []]:=(qj.1 g0).2;have dz:∀ c:List Cell,(U.mu++c)[0]?=some (.arr [aI 0,.lst true []]):=fun c=>by rw[zGa];exact g0
    have cl:∀ A B:Cell,(U.mu++[A,B])[L]?=some A:=fun A B=>by rw[zG zOm,hL];simp
    have cm:∀ A B:Cell,(U.mu++[A,B])[L+1]?=some B:=fun A B=>by rw[zG zOm,hL];simp
    refine cK (SInv x nm sn sb k L (L+1) F0) ⟨zS1 e0,zS1 e5,zS1 e6,zSi,zSi,zS1 bb,zS1 ay,zS1 az,by simp[go_sem,List.getElem_append_left,hL,l0,aj],zS1 cl,zS1 cm,by simp[go_sem,b0],zS1 hn,fun e=>?_,fun e=>?_⟩ fun st0 h0=>?_
    .have:=ar L (zVs e);omega
    .have:=ar (L+1) (zVs e);omega
    refine BrS.join (SInv x nm sn sb k L (L+1) (F0++if sn=nm then [⟨1,zD x k⟩] else [])) ?_ ?_ ?_
    .intro C
     have C:=of_decide_eq_true C;rw[if_pos C];simp[go_sem,h0.e14,h0.gd];refine h0.app zSi zSi zOm ⟨1,zD x k⟩ (by simp[qD]) fun t a3 R b1 b2=>?_
     simp[go_sem];refine aA ?_;exact⟨by simp[go_sem,h0.e0],by simp[go_sem,h0.e5],by simp[go_sem,h0.e6],by simp[go_sem,h0.e13],by simp[go_sem,h0.e14],by simp[go_sem,h0.e65],by simp[go_sem,h0.e66],by simp[go_sem,h0.e67],R.g0,b1,b2,R.ho,R.n0,R.nc,R.nd⟩
    .intro C
     have C:=of_decide_eq_false C;rw[if_neg C,zJ];simp[go_sem];exact aA h0
    intro st1 I;have e1:(F0++if sn=nm then [(⟨1,zD x k⟩:Rl)] else []).length<=19:=by rw[q8];split<;>simp only[zz,List.length_nil]<;>omega
    cases sb with
    |false =>
     have cn:F0++Zp x nm k (sn,false)=F0++if sn=nm then [⟨1,zD x k⟩] else []:=by simp[Zp]
     rw[<-cn,<-aq]at I;simp[go_sem,I.e13,I.e67,I.gc,w1,P];exact aA ⟨by simp[go_sem,I.e0],by simp[go_sem,I.e5],by simp[go_sem,I.e6],by simp[go_sem,I.e65],by simp[go_sem,I.e66],zSi,by simpa[go_sem] using I.g0,by simpa[go_sem] using I.ho,by simpa[go_sem] using I.n0⟩
    |true =>
    generalize bg:(F0++if sn=nm then [⟨1,zD x k⟩] else [])=F1 at *
    have ds:(zD x k).length<=100:=by
     obtain⟨u0,u1⟩:=hM.gsc.sum (k+1);obtain⟨v0,v1⟩:=hM.gsc.sum k;rw[uI _ _ be]at u1;unfold zD;rw[zA,List.length_range,uH be];omega
    simp[go_sem,wA,I.e5,I.e13,I.gc,cj];refine cK (SInv x nm sn true k L (L+1) F1) ⟨by simp[go_sem,I.e0],by simp[go_sem,I.e5],by simp[go_sem,I.e6],by simp[go_sem,I.e13],by simp[go_sem,I.e14],by simp[go_sem,I.e65],by simp[go_sem,I.e66],by simp[go_sem,I.e67],I.g0,I.gc,I.gd,I.ho,I.n0,I.nc,I.nd⟩ fun st2 h2=>?_
    refine BrS.join (SInv x nm sn true k L (L+1) (F1++if sn++jb=nm then [⟨1,(zD x k).take 1⟩] else [])) ?_ ?_ ?_
    .intro C
     have C:=of_decide_eq_true C;have C:sn++jb=nm:=by rw[C];rfl
     rw[if_pos C];obtain⟨m,cp,cq,cr⟩:∃ m:Nat,(if ((zD x k).length:Int)<1 then ((zD x k).length:Int) else 1)=m/\m<=(zD x k).length/\(zD x k).take m=(zD x k).take 1:=by
      by_cases hz:(zD x k).length=0
      .exact ⟨0,by rw[if_pos zOm,hz],zOm,by rw[List.length_eq_zero_iff.1 hz];rfl⟩
      .exact ⟨1,zIn,zOm,rfl⟩
     have cs:WKs [.lst false (((zD x k).map rI).take m)] [lI ((zD x k).take 1)] := .cons (by rw[<-List.map_take,cr];exact .hf (zg _)) .nil;simp[go_sem,h2.e14,h2.gd,cp,cq];refine⟨⟨_,_,⟨rfl,rfl⟩,(yq _).ok⟩,?_⟩;refine tK (clipI ((zD x k).take 1)) cs ?_;generalize (zD x k).take 1=T1 at *
     simp[go_sem];refine h2.app zSi zSi zOm ⟨1,T1⟩ (by simp[qD]) fun t a3 R b1 b2=>?_
     simp[go_sem];refine aA ?_;exact⟨by simp[go_sem,h2.e0],by simp[go_sem,h2.e5],by simp[go_sem,h2.e6],by simp[go_sem,h2.e13],by simp[go_sem,h2.e14],by simp[go_sem,h2.e65],by simp[go_sem,h2.e66],by simp[go_sem,h2.e67],R.g0,b1,b2,R.ho,R.n0,R.nc,R.nd⟩
    .intro C
     have C:=of_decide_eq_false C;have C:¬sn++jb=nm:=fun e=>C (by rw[<-e];rfl)
     rw[if_neg C,zJ];simp[go_sem];exact aA h2
    intro st3 h3;have e2:(F1++if sn++jb=nm then [(⟨1,(zD x k).take 1⟩:Rl)] else []).length<=20:=by rw[q8];split<;>simp only[zz,List.length_nil]<;>omega
    have a4:F++jc x nm 0 (x.ts.sS.take (k+1))=(F1++if sn++jb=nm then [⟨1,(zD x k).take 1⟩] else [])++(if sn++j9=nm then [⟨2,Qk x k⟩] else []):=by
     rw[aq,<-bg];simp[Zp]
    generalize (F1++if sn++jb=nm then [⟨1,(zD x k).take 1⟩] else [])=F2 at *
    simp[go_sem,wA,h3.e5,h3.e13,h3.gc,ck];refine cK (SInv x nm sn true k L (L+1) F2) ⟨by simp[go_sem,h3.e0],by simp[go_sem,h3.e5],by simp[go_sem,h3.e6],by simp[go_sem,h3.e13],by simp[go_sem,h3.e14],by simp[go_sem,h3.e65],by simp[go_sem,h3.e66],by simp[go_sem,h3.e67],h3.g0,h3.gc,h3.gd,h3.ho,h3.n0,h3.nc,h3.nd⟩ fun a6 T=>?_
    refine tS ?_ ?_
    .intro C
     have C:=of_decide_eq_true C;have C:sn++j9=nm:=by rw[C];rfl
     rw[if_pos C]at a4;have gl:=(qj.1 T.gd).1;have hA:∀(z:List Cell)(i:Nat),i<a6.mu.length->(a6.mu++z)[i]?=a6.mu[i]?:=fun z i hi=>qM hi
     obtain⟨A,a7⟩:∃ A,A=a6.mu:=⟨_,rfl⟩;rw[<-a7]at hA gl;have b3:∀ z:List Cell,(A++z)[L+1]?=some (.arr [aI 1,lI (zD x k)]):=fun z=>by rw[hA z _ gl,a7];exact T.gd
     have ct:∀(c:Cell)(z:List Cell),(A++c :: z)[A.length]?=some c:=fun c z=>by rw[zG (qr _)];simp
     have cu:∀(c d:Cell)(z:List Cell),(A++c :: z).set A.length d=A++d :: z:=fun c d z=>by rw[List.set_append_right _ _ (qr _)];simp
     have cv:∀ b,qn (a6.tm 9)=some b->b<A.length:=fun b hb=>by rw[a7];exact Own.lt T.ho hb
     have bh:∀ j,j<(zD x k).length-1->∃ u v:Int,(zD x k)[j]?=some u/\(zD x k)[j+1]?=some v/\(0<=u/\u<x.n)/\(0<=v/\v<x.n)/\(Qk x k)[j]?=some (u*x.n+v):=by
      intro j hj;obtain⟨a0,a1,a2⟩:=hM.at0 k P;have e3:(zD x k).length=(gI x.m.sc.sC k).toNat:=by simp[zD]
      refine⟨sumI (x.m.sc.sC.take k)+j,sumI (x.m.sc.sC.take k)+((j+1:Nat):Int),?_,?_,⟨zOm,zOm⟩,⟨zOm,zOm⟩,?_⟩
      .rw [zD,zi,wT zOm];rfl
      .rw [zD,zi,wT zOm];rfl
      .rw [Qk,zi,wT zOm]
       simp only[zn,qu];congr 1;omega
     have e7:(Qk x k).length=(zD x k).length-1:=by simp[Qk,zD]
     generalize e8:zD x k=al at *
     generalize e9:Qk x k=nx at *
     simp[go_sem,<-a7];refine fB (al.length-1) (fun j=>Keep (fun U=>∃ t o,U.mu=A++(.arr [aI 2,t] :: o)/\OwnI U.mu t (nx.take j)/\(∀ b,qn t=some b->A.length<b)/\U.tm 0=eMa x/\U.tm 5 = .ip [aS nm]/\U.tm 6 = .ptr 0 0/\U.tm 9=a6.tm 9/\U.tm 14 = .ptr (L+1) 0/\U.tm 15 = .ptr A.length 0/\U.tm 16=aI ((j:Int)+1)/\U.tm 65=lSo x.ts.sS/\U.tm 66=aI x.ts.sS.length/\U.tm 67=aI k) .mk) ?_ ?_
     .exact aA ⟨.lst true [],[],zSi,.inl ⟨rfl,zSp⟩,by simp[qn],by simp[go_sem,T.e0],by simp[go_sem,T.e5],by simp[go_sem,T.e6],zSi,by simp[go_sem,T.e14],zSi,zSi,by simp[go_sem,T.e65],by simp[go_sem,T.e66],by simp[go_sem,T.e67]⟩
     rintro j ea hj ⟨t,o,ak,ad,b4,i0,i5,i6,i9,an,b5,i16,bi,bj,bk⟩;by_cases a8:j<al.length-1
     .have hc:(j:Int)+1<al.length:=by omega
      obtain⟨u,v,hu,hv,cw,cx,cy⟩:=bh j a8;obtain⟨cz,da⟩:=qj.1 hu;obtain⟨db,dc⟩:=qj.1 hv;obtain⟨dd,de⟩:=qj.1 cy;have wj:qo.wrap (j:Int)=j:=zWr;have df:qo.wrap ((j:Int)+1+1)=(j:Int)+1+1:=zWr;have aa:=rankU x.m.sc hM.gsc [u,v] zSp (fun d C=>by
       rcases qw.1 C with rfl|C
       .exact cw
       .rw [qT]at C;subst C;exact cx)
      have dh:un (sumI x.m.sc.sC) [u,v]=u*x.n+v:=by simp[un,Mo.n]
      rw[dh]at aa;have di:WKs [eSc x.m.sc,.lst true [[aI u],[aI v]]] [eSc x.m.sc,lI [u,v]] := .zk (zr _) (.cons (cA [u,v]) .nil);simp[go_sem,an,i16,ak,b3,hc];refine fD [0,1,2,3,4,5,6,7,8,9,10,11,12,13,14,15,16,17,18,22,19,20,21,23] [(0,0,[]),(1,0,[]),(2,0,[]),(3,0,[]),(4,0,[]),(5,0,[]),(6,0,[]),(7,0,[]),(8,0,[]),(9,0,[]),(10,0,[]),(11,0,[]),(12,0,[]),(13,0,[]),(14,0,[]),(15,0,[]),(16,0,[]),(17,0,[]),(18,0,[]),(22,0,[]),(19,1,[1]),(20,0,[]),(21,1,[]),(23,1,[])] zKr zKr zSi ?_;simp[go_sem,i0,an,b5,i16,b3,hc,wj,cz,da,db,dc,show (0:Int)<=(j:Int)+1 by omega];refine fR aa di ?_;rw[ak]at ad;refine aM (e:=3) (bt:=8) (z:=0) (l:=nx.take j) zSi zSi zSi zOm ad.v zSo ?_;intro ah a3 ab ax cd b9;have bm:A.length<(A++(.arr [aI 2,t] :: o)).length:=zSp;have dj:a3=A++(.arr [aI 2,t] :: a3.drop (A.length+1)):=by
       apply jL;intro i;by_cases hi:i<A.length
       .rw [qM hi,ax i zOm (fun e=>zW1 (b4 i e)),qM hi]
       .rw [zG zOm]
        by_cases dk:i=A.length
        .subst dk
         rw[ax _ bm (fun e=>zW1 (b4 _ e)),zG (qr _)];simp
        .obtain ⟨q,hq⟩:∃ q,i-A.length=q+1:=⟨i-A.length-1,zOm⟩
         rw[hq,vK,List.getElem?_drop];congr 1;omega
      have au:∀ b,qn ah=some b->A.length<b:=fun b hb=>zW1 (b9 b hb)
      rw[dj]at ab ⊢;generalize a3.drop (A.length+1)=b6 at *
      simp[go_sem,i16,cu,ab.v.one,ab.v.cells,df];refine⟨a8,aA ⟨ah,b6,zSi,?_,au,zS1 i0,zS1 i5,zS1 i6,zS1 i9,zS1 an,zS1 b5,zSi,zS1 bi,zS1 bj,zS1 bk⟩⟩;simp only[qB];rw[yc dd,de];refine ab.same fun b hb=>?_
      have:=au b hb;rw[zG zOm,zG zOm];obtain⟨q,hq⟩:∃ q,b-A.length=q+1:=⟨b-A.length-1,zOm⟩;rw[hq,vK,vK]
     .have ai:j=al.length-1:=by omega
      have hc:¬(j:Int)+1<al.length:=zOm;rw[zQ zOm]at ad;simp[go_sem,an,i16,ak,b3,hc];have dm:(A++(.arr [aI 2,t] :: o))[A.length]?=some (.arr [aI 2,t]):=ct _ _;rw[ak]at ad;generalize dn:A++(.arr [aI 2,t] :: o)=MM at *
      have ae:∀ i,A.length<=i->(cutM (fun j=>decide (A.length<=j)) MM 0)[i]?=MM[i]?:=fun i hi=>by
       rw[jF,yd];cases MM[i]?<;>simp[hi]
      have aw:∀ i,i<A.length->(cutM (fun j=>!decide (A.length<=j)) MM 0)[i]?=A[i]?:=fun i hi=>by
       rw[jF,yd,<-dn,qM hi];cases A[i]?<;>simp<;>omega
      have dp:0<A.length:=zOm;have bn:FndM (cutM (fun j=>!decide (A.length<=j)) MM 0) (a6.tm 9) F2:=by
       refine⟨by rw[aw 0 dp,a7];exact T.g0,?_,T.n0⟩;rcases T.ho with h|⟨b,h,dq⟩
       .exact .inl h
       .refine .inr ⟨b,h,?_⟩
        rw[aw b (cv b (by rw[h];rfl)),a7];exact dq
      refine cT (d:=15) (L:=A.length) (x := .ip (cRel ⟨2,nx⟩)) ?_ ?_
      .simp only[qB,g7,b5]
       refine .ptr A.length 0 [aI 2,t] _ (by rw[ae _ (qr _)];exact dm) zSp fun k u v hu hv=>?_
       match k with
       | 0=>simp at hu hv;subst hu;subst hv;exact .zsc _
       | 1 =>
        simp at hu hv;subst hu;subst hv;exact(ad.v.same fun b hb=>ae b (zW1 (b4 b hb))).rd
       |k+2=>simp at hv
      .simp [go_sem,i9]
       refine appR (F:=F2) zSi zSi bn zOm ⟨2,nx⟩ (by simp[qD]) fun eb ec bo=>?_
       rw[<-a4]at bo;obtain⟨z0,z1,z2⟩:=bo;simp[go_sem,bk,w1,P];exact aA ⟨zS1 i0,zS1 i5,zS1 i6,zS1 bi,zS1 bj,zSi,z0,z1,z2⟩
    .intro C
     have C:=of_decide_eq_false C;have C:¬sn++j9=nm:=fun e=>C (by rw[<-e];rfl)
     rw[if_neg C,zJ]at a4;rw[<-a4]at T;simp[go_sem,T.e67,w1,P];exact aA ⟨by simp[go_sem,T.e0],by simp[go_sem,T.e5],by simp[go_sem,T.e6],by simp[go_sem,T.e65],by simp[go_sem,T.e66],zSi,by simpa[go_sem] using T.g0,by simpa[go_sem] using T.ho,by simpa[go_sem] using T.n0⟩
   .have ai:k=x.ts.sS.length:=by omega
    subst ai;rw[qO]at ho;generalize F++jc x nm 0 x.ts.sS=F0 at *
    simp[go_sem,ay,az];refine FzQ.ownB (d:=9) (sz:=2) (av:=U.tm 9) (xs:=F0.map cRel) zSi ho (vF _) (fun r hr c hc=>by obtain⟨q,_,rfl⟩:=qm.1 hr;exact ZM q c hc) fun a3 full hl hs=>?_
    have aj:a3[0]?=some (.arr [aI 0,.lst true []]):=(hs 0 hn).trans g0;have bq:∀ c,(a3.set 0 c)[0]?=some c:=fun c=>qL (qj.1 aj).1
    match F0,hE with
    | [],hE =>
     simp only[JU]at hE;subst hE;simp[go_sem];refine fZ (wt 40) (wkI 40) ?_;simp[go_sem];exact .hf _ (qQ _)
    | [r],hE =>
     simp only[JU]at hE;subst hE;simp[go_sem,e6,aj,bq];exact .hf _ (qP r)
    |r :: s :: F1,hE =>
     have dr:¬(F1.length:Int)+1+1=0:=zOm;have br:¬(F1.length:Int)+1+1=1:=zOm;simp only[JU]at hE;subst hE;simp[go_sem,dr,br];refine fZ (wt 44) (wkI 44) ?_;simp[go_sem];exact .hf _ (qQ _)
 .rintro e M ⟨rfl,a,o,h2,rfl⟩
  rw[h2]at hE;simp only at hE;subst hE;simp[go_sem];refine .agg _ _ rfl fun k u v hu hv=>?_
  match k with
  | 0=>simp at hu hv;subst hu;subst hv;exact .zsc _
  | 1=>simp at hu hv;subst hu;subst hv;exact .wk _ true _ (.hf _ (HF.lst fun r hr c hc=>by simp at hr;subst hr;simp at hc;subst hc;exact HF.sc _))
  |k+2=>simp at hu
end
end F6
namespace F7
open Y1 P2 E1 E3 EA EO EP EQ ET F1 F2 F3 F4 F5 F6
theorem ym(a b v es i):zq qb 3 (.sc (.int .i64 a)) ((.sc (.int .i64 b),v) :: es) i=if a=b then some (some i) else zq qb 3 (.sc (.int .i64 a)) es (i+1):=by
 have h:jP qb 3 (.sc (.int .i64 a)) (.sc (.int .i64 b))=some (decide (a=b)):=keyI.eq a b trivial trivial
 grind [zq]
def RelN(mu:Mu)(g:Int)(l:List Int):Prop:=∃ t,mu[0]?=some (.arr [aI 0,.lst true []])/\mu[2]?=some (.arr [aI g,t])/\OwnI mu t l/\qn t≠some 0/\qn t≠some 2
theorem RelN.step{mu mu':Mu}{j av g l}(I:mu[0]?=some (.arr [aI 0,.lst true []]))(o:mu[2]?=some (.arr [aI j,av]))(J:qn av≠some 0)(P:qn av≠some 2)(p:OwnI mu' g l)
  (R:∀ i,i<mu.length->qn av≠some i->mu'[i]?=mu[i]?) (T:mu.length<=mu'.length) (U:∀ b,qn g=some b->b=mu.length):mu'[2]?=some (.arr [aI j,av])/\RelN (mu'.set 2 (.arr [aI j,g])) j l:=by
 have l1:2<mu.length:=(qj.1 o).1;have r:qn g≠some 0:=fun e=>by grind
 have t:qn g≠some 2:=fun e=>by grind
 refine⟨by grind,g,by grind,by grind,p.same fun b C=>?_,r,t⟩
 grind
theorem uo{f:Nat}{l A E}(h:qX qb f l (endE A))(e:A=E):qX qb f l (endE E):=e ▸ h
theorem exprX(x N n)(J:WfN n)(C:OkMa x N)(P:IH x N n)(p)(I:OkP x N p)(R:bd p n) :
  qX qb 125 [eMa x,ePl p,eNd n] (endE ((den x n).E p)):=by
 refine zh.of_sound ?_;refine qSW call125 func125 rfl {} ?_;have ab:=zV x;have o:=wk3 x p n;rw[Uw];simp only[opD];generalize i:opE x n.op n.name n.n (n.sD.map (den x)) p=E;unfold opE at i;by_cases o6:n.op=6
 .obtain ⟨a,b,l⟩:=js J zOm
  have g:=qmX x N n a b C l P p I R;rw[o6,l]at i;replace g:=uo g i;cases E with
  |error e =>
   simp[go_sem,o6,ym];refine fZ g o ?_;simp[go_sem];exact .hf _ (qQ _)
  |ok r =>
   simp[go_sem,o6,ym];refine fR g.toP o ?_;exact .hf _ (qP _)
 by_cases o7:n.op=7
 .obtain ⟨a,b,l⟩:=js J zOm
  have g:=qmY x N n a b C l P p I R;rw[o7,l]at i;replace g:=uo g i;cases E with
  |error e =>
   simp[go_sem,o7,ym];refine fZ g o ?_;simp[go_sem];exact .hf _ (qQ _)
  |ok r =>
   simp[go_sem,o7,ym];refine fR g.toP o ?_;exact .hf _ (qP _)
 by_cases o8:n.op=8
 .obtain ⟨a,b,l⟩:=js J zOm
  have g:=diffX x N n a b C l P p I R;rw[o8,l]at i;replace g:=uo g i;cases E with
  |error e =>
   simp[go_sem,o8,ym];refine fZ g o ?_;simp[go_sem];exact .hf _ (qQ _)
  |ok r =>
   simp[go_sem,o8,ym];refine fR g.toP o ?_;exact .hf _ (qP _)
 by_cases T:n.op=14
 .obtain ⟨a,b,l⟩:=js J zOm
  have g:=overX x N n a b C l P p I R;rw[T,l]at i;replace g:=uo g i;cases E with
  |error e =>
   simp[go_sem,T,ym];refine fZ g o ?_;simp[go_sem];exact .hf _ (qQ _)
  |ok r =>
   simp[go_sem,T,ym];refine fR g.toP o ?_;exact .hf _ (qP _)
 by_cases o9:n.op=9
 .obtain ⟨a,b,l⟩:=js J zOm
  have g:=joinX x N n a b C l P p I R;rw[o9,l]at i;replace g:=uo g i;cases E with
  |error e =>
   simp[go_sem,o9,ym];refine fZ g o ?_;simp[go_sem];exact .hf _ (qQ _)
  |ok r =>
   simp[go_sem,o9,ym];refine fR g.toP o ?_;exact .hf _ (qP _)
 by_cases a0:n.op=10
 .obtain ⟨a,b,l⟩:=js J zOm
  have g:=qmZ x N n a b C l P p I R;rw[a0,l]at i;replace g:=uo g i;cases E with
  |error e =>
   simp[go_sem,a0,ym];refine fZ g o ?_;simp[go_sem];exact .hf _ (qQ _)
  |ok r =>
   simp[go_sem,a0,ym];refine fR g.toP o ?_;exact .hf _ (qP _)
 by_cases a1:n.op=11
 .obtain ⟨a,l⟩:=vZ J zOm
  have g:=qm1 x N n a C l P p I R;rw[a1,l]at i;replace g:=uo g i;cases E with
  |error e =>
   simp[go_sem,a1,ym];refine fZ g o ?_;simp[go_sem];exact .hf _ (qQ _)
  |ok r =>
   simp[go_sem,a1,ym];refine fR g.toP o ?_;exact .hf _ (qP _)
 by_cases a2:n.op=12
 .obtain ⟨a,l⟩:=vZ J zOm
  have g:=qaW x N n a C l P p I R;rw[a2,l]at i;replace g:=uo g i;cases E with
  |error e =>
   simp[go_sem,a2,ym];refine fZ g o ?_;simp[go_sem];exact .hf _ (qQ _)
  |ok r =>
   simp[go_sem,a2,ym];refine fR g.toP o ?_;exact .hf _ (qP _)
 by_cases a3:n.op=13
 .obtain ⟨a,l⟩:=vZ J zOm
  have g:=qm2 x N n a C l P p I R;rw[a3,l]at i;replace g:=uo g i;cases E with
  |error e =>
   simp[go_sem,a3,ym];refine fZ g o ?_;simp[go_sem];exact .hf _ (qQ _)
  |ok r =>
   simp[go_sem,a3,ym];refine fR g.toP o ?_;exact .hf _ (qP _)
 by_cases o5:n.op=5
 .obtain ⟨a,l⟩:=vZ J zOm
  have g:=qm0 x N n a C l P p I R;rw[o5,l]at i;replace g:=uo g i;cases E with
  |error e =>
   simp[go_sem,o5,ym];refine fZ g o ?_;simp[go_sem];exact .hf _ (qQ _)
  |ok r =>
   simp[go_sem,o5,ym];refine fR g.toP o ?_;exact .hf _ (qP _)
 by_cases a4:n.op=15
 .obtain ⟨a,b,l⟩:=js J zOm
  have g:=qnF x N n a b C l P p I R;rw[a4,l]at i;replace g:=uo g i;cases E with
  |error e =>
   simp[go_sem,a4,ym];refine fZ g o ?_;simp[go_sem];exact .hf _ (qQ _)
  |ok r =>
   simp[go_sem,a4,ym];refine fR g.toP o ?_;exact .hf _ (qP _)
 by_cases o1:n.op=1
 .have g:=qnN x N C n.name p I zOm
  have wn:WKs [eMa x,ePl p,aS n.name] [eMa x,ePl p,aS n.name] := .zk ab (.zk (Uz p) (.zs .nil));rw[o1]at i;replace g:=uo g i;cases E with
  |error e =>
   simp[go_sem,o1,ym];refine fZ g wn ?_;simp[go_sem];exact .hf _ (qQ _)
  |ok r =>
   simp[go_sem,o1,ym];refine fR g.toP wn ?_;exact .hf _ (qP _)
 by_cases o2:n.op=2
 .rw [o2]at i
  replace i:Except.ok ⟨n.n,[]⟩=E:=i;subst i;simp[go_sem,o2,ym];exact Yz
 by_cases o3:n.op=3
 .rw [o3]at i
  replace i:Except.ok ⟨1,(qt x.n.toNat).map fun k:Nat=>(k:Int)⟩=E:=i;subst i;have h0:=C.n0;have ad:=C.n12;obtain⟨m,hm⟩:=Int.eq_ofNat_of_zero_le h0;simp[go_sem,o3,ym];rw[hm]at ad;refine aK m (fun k U=>U.tm 6 = .ptr 0 0/\U.tm 10 = .ptr 2 0/\U.tm 47=aI m/\U.tm 48=aI k/\RelN U.mu 1 ((qt k).map fun k:Nat=>(k:Int))) ?_ ?_
  .exact ⟨zSi,zSi,zS1 hm,zSi,.lst true [],zSi,zSi,.inl ⟨rfl,rfl⟩,by simp[qn],by simp[qn]⟩
  rintro k U l ⟨e6,a5,a6,a7,t,g0,g2,ho,n0,n2⟩;by_cases a9:k<m
  .have w1:=zWk k
   simp[go_sem,a5,a6,a7,a9,g2];refine aM (e:=3) (bt:=8) (z:=0) zSi zSi zSi zOm ho.v zSo ?_;intro ai j a8 ae af ag;obtain⟨k1,k2⟩:=RelN.step g0 g2 n0 n2 a8 ae af ag;simp[go_sem,a5,a7,a9,k1,a8.v.one,a8.v.cells,w1];refine aA ⟨zS1 e6,zS1 a5,zS1 a6,zSi,?_⟩;rw[List.range_succ,zb];exact k2
  .have ah:k=m:=by omega
   subst ah;have aa:∀ c,(U.mu.set 0 c)[0]?=some c:=fun c=>qL (qj.1 g0).1
   rw[hm];simp[go_sem,e6,a5,a6,a7,g0,g2,aa,ho.v.one];refine aG (ho.v.same fun b hb=>?_);rw[yA (fun e=>n0 (by rw[e];exact hb))]
 by_cases o4:n.op=4
 .rw [o4]at i
  replace i:Except.ok (idR x.n)=E:=i;subst i;simp[go_sem,o4,ym];refine fR (qaX x.n C.n0 C.n12) (.zs .nil) ?_;exact .hf _ (qP _)
 have i:Except.error 43=E:=by
  rw[<-i];rw[if_neg o1,if_neg o2,if_neg o3,if_neg o4,if_neg o5,if_neg o6,if_neg o7,if_neg o8,if_neg o9,if_neg a0,if_neg a1,if_neg a2,if_neg a3,if_neg T,if_neg a4]
 subst i;simp[go_sem,o1,o2,o3,o4,o5,o6,o7,o8,o9,a0,a1,a2,a3,T,a4,ym];refine fZ (wt 43) (wkI 43) ?_;simp[go_sem];exact .hf _ (qQ _)
end F7
namespace F8
open Y1 P2 E1 E3 EA ER EY F1 F2 F3
theorem f30(x N n)(j:WfN n)(l:OkMa x N)(o:IH x N n)(p)(r:OkP x N p)(t:bd p n)(g:n.op=30):qX qb 78 [eMa x,ePl p,eNd n] (endB (Except.ok true)):=by
 refine zh.of_sound ?_;refine qSW call78 func78 rfl {} ?_;have i:=zV x;simp[go_sem,g];exact .zsc _
theorem f31(x N n)(j:WfN n)(l:OkMa x N)(o:IH x N n)(p)(r:OkP x N p)(t:bd p n)(g:n.op=31):qX qb 78 [eMa x,ePl p,eNd n] (endB (Except.ok false)):=by
 refine zh.of_sound ?_;refine qSW call78 func78 rfl {} ?_;have i:=zV x;simp[go_sem,g];exact .zsc _
theorem f32(x N n a b)(i:OkMa x N)(l:n.sD=[a,b])(o:IH x N n)(p)(t:OkP x N p)(T:bd p n)(C:n.op=32):qX qb 78 [eMa x,ePl p,eNd n] (endB ((bX (yE [den x a,den x b] p) fun q => .ok (decide ((diR q.1 q.2).ts=[]))))):=by
 refine zh.of_sound ?_;refine qSW call78 func78 rfl {} ?_;have U:=zV x;have J:=wk3 x p n;generalize g:(bX (yE [den x a,den x b] p) fun q => .ok (decide ((diR q.1 q.2).ts=[])))=E;have j:=YQ x N n a b l o p t T;simp[go_sem,C];cases I:yE [den x a,den x b] p with
 |error e =>
  rw[I]at j g;subst g;refine fZ j J ?_;simp[go_sem,zF];exact .hf _ (qQ _)
 |ok q =>
  obtain⟨r,s⟩:=q;obtain⟨P,R,h3⟩:=wC I;simp only[kD,uz,List.getD_cons_succ]at P R;have gr:=(o a (by rw[l];simp) p t zOm).G _ P;have gs:=(o b (by rw[l];simp) p t zOm).G _ R;have lr:=gr.len i.n0 (aL i);have ls:=gs.len i.n0 (aL i);rw[I]at j g;rw[zC]at g;subst g;refine fR j.toP J ?_;refine fR (inU r s zOm zOm) (wkR2 r s) ?_;exact .zsc _
theorem f33(x N n a b)(i:OkMa x N)(l:n.sD=[a,b])(o:IH x N n)(p)(t:OkP x N p)(T:bd p n)(C:n.op=33):qX qb 78 [eMa x,ePl p,eNd n] (endB ((bX (yE [den x a,den x b] p) fun q => .ok (decide (q.1=q.2))))):=by
 refine zh.of_sound ?_;refine qSW call78 func78 rfl {} ?_;have U:=zV x;have J:=wk3 x p n;generalize g:(bX (yE [den x a,den x b] p) fun q => .ok (decide (q.1=q.2)))=E;have j:=YQ x N n a b l o p t T;simp[go_sem,C];cases I:yE [den x a,den x b] p with
 |error e =>
  rw[I]at j g;subst g;refine fZ j J ?_;simp[go_sem,zF];exact .hf _ (qQ _)
 |ok q =>
  obtain⟨r,s⟩:=q;obtain⟨P,R,h3⟩:=wC I;simp only[kD,uz,List.getD_cons_succ]at P R;have gr:=(o a (by rw[l];simp) p t zOm).G _ P;have gs:=(o b (by rw[l];simp) p t zOm).G _ R;have lr:=gr.len i.n0 (aL i);have ls:=gs.len i.n0 (aL i);rw[I]at j g;rw[zC]at g;subst g;refine fR j.toP J ?_;refine fR (E4.XU r s zOm) (wkR2 r s) ?_;exact .zsc _
theorem f34(x N n a)(hM:OkMa x N)(t:n.sD=[a])(J:IH x N n)(p)(P:OkP x N p)(hq:bd p n)(g)(T:n.op=34/\g=(fun k=>decide (0<k))\/n.op=35/\g=(fun k=>decide (k=0))\/n.op=36/\g=(fun k=>decide (k=1))\/n.op=37/\g=fun k=>decide (k<=1)):qX qb 78 [eMa x,ePl p,eNd n] (endB ((bX ((den x a).E p) fun a => .ok (g a.ts.length)))):=by
 rcases T with ⟨o,rfl⟩|⟨o,rfl⟩|⟨o,rfl⟩|⟨o,rfl⟩
 all_goals
  refine zh.of_sound ?_;refine qSW call78 func78 rfl {} ?_;have U:=zV x;have wx:=wk3 x p n;generalize i:bX ((den x a).E p) _=E;have j:=(J a (by rw[t];simp) p P zOm).E;have C:=wk3 x p a;simp[go_sem,o];refine fD [0,1,2,3,4,5,6,7,8,9] [(0,0,[]),(1,0,[]),(2,0,[]),(3,0,[]),(4,0,[]),(5,0,[]),(6,1,[]),(7,0,[]),(8,0,[]),(9,0,[])] zKr zKr zSi ?_;simp[go_sem,t];cases I:(den x a).E p with
  |error e =>
   rw[I]at j i;subst i;refine fZ j C ?_;simp[go_sem,zF];exact .hf _ (qQ _)
  |ok r =>
   rw[I]at j i;rw[zC]at i;subst i;refine tK j.toP C ?_;obtain⟨ar,R⟩:=r;rcases R with _|⟨y,_|⟨z,l⟩⟩
   .simp [go_sem,o]
    exact .zsc _
   .simp [go_sem,o]
    exact .zsc _
   .have h1:(0:Int)<l.length+1+1:=by omega
    have h2:¬(l.length:Int)+1+1=1:=zOm;have h3:¬(l.length:Int)+1+1<=1:=zOm;have h4:¬(l.length:Int)+1+1=0:=zOm;simp[go_sem,o,h1,h2,h3,h4];exact .zsc _
theorem f38(x N n a b)(hM:OkMa x N)(j:n.sD=[a,b])(C:IH x N n)(p)(I:OkP x N p)(hq:bd p n)(g)(U:n.op=38/\g=(fun a b=>decide (a=b))\/n.op=39/\g=fun a b=>decide (a<b)):qX qb 78 [eMa x,ePl p,eNd n] (endB ((bX ((den x a).N p) fun a=>bX ((den x b).N p) fun b => .ok (g a b)))):=by
 rcases U with ⟨o,rfl⟩|⟨o,rfl⟩
 all_goals
  refine zh.of_sound ?_;refine qSW call78 func78 rfl {} ?_;have a0:=zV x;have wx:=wk3 x p n;generalize i:bX ((den x a).N p) _=E;have l:=(C a (by rw[j];simp) p I zOm).N;have t:=(C b (by rw[j];simp) p I zOm).N;have J:=wk3 x p a;have P:=wk3 x p b;simp[go_sem,o];refine fD [0,1,2,3,4,5,7,8,9,10,11,12,6,13,14,15] [(0,0,[]),(1,0,[]),(2,0,[]),(3,0,[]),(4,0,[]),(5,0,[]),(7,0,[]),(8,0,[]),(9,0,[]),(10,0,[]),(11,0,[]),(12,0,[]),(6,1,[8,10,12]),(13,1,[]),(14,0,[]),(15,0,[])] zKr zKr zSi ?_;simp[go_sem,j];cases R:(den x a).N p with
  |error e =>
   rw[R]at l i;subst i;refine fZ l J ?_;simp[go_sem,zF];exact .hf _ (qQ _)
  |ok r =>
   rw[R]at l i;rw[zC]at i;refine tK l.toP J ?_;simp[go_sem,j];cases T:(den x b).N p with
   |error e =>
    rw[T]at t i;subst i;refine fZ t P ?_;simp[go_sem,zF];exact .hf _ (qQ _)
   |ok s =>
    rw[T]at t i;rw[zC]at i;subst i;refine fR t.toP P ?_;exact .zsc _
theorem f40(x N n a)(P:OkMa x N)(l:n.sD=[a])(C:IH x N n)(p)(I:OkP x N p)(R:bd p n)(j:n.op=40):qX qb 78 [eMa x,ePl p,eNd n] (endB ((bX ((den x a).F p) fun a => .ok (!a)))):=by
 refine zh.of_sound ?_;refine qSW call78 func78 rfl {} ?_;have J:=zV x;have T:=wk3 x p n;generalize g:(bX ((den x a).F p) fun a => .ok (!a))=E;have i:=(C a (by rw[l];simp) p I zOm).F;have o:=wk3 x p a;simp[go_sem,j];refine fD [0,1,2,3,4,5,6,7,8] [(0,0,[]),(1,0,[]),(2,0,[]),(3,0,[]),(4,0,[]),(5,0,[]),(6,1,[]),(7,0,[]),(8,0,[])] zKr zKr zSi ?_;simp[go_sem,l];cases t:(den x a).F p with
 |error e =>
  rw[t]at i g;subst g;refine fZ i o ?_;simp[go_sem,zF];exact .hf _ (qQ _)
 |ok r =>
  rw[t]at i g;rw[zC]at g;subst g;refine fR i.toP o ?_;exact .zsc _
theorem f41(x N n a b)(hM:OkMa x N)(j:n.sD=[a,b])(C:IH x N n)(p)(I:OkP x N p)(hq:bd p n)(g)(U:n.op=41/\g=(fun a b=>a&&b)\/n.op=42/\g=(fun a b=>a||b)\/n.op=43/\g=(fun a b=>!a||b)\/n.op=44/\g=fun a b=>decide (a=b)):qX qb 78 [eMa x,ePl p,eNd n] (endB ((bX ((den x a).F p) fun a=>bX ((den x b).F p) fun b => .ok (g a b)))):=by
 rcases U with ⟨o,rfl⟩|⟨o,rfl⟩|⟨o,rfl⟩|⟨o,rfl⟩
 all_goals
  refine zh.of_sound ?_;refine qSW call78 func78 rfl {} ?_;have a0:=zV x;have wx:=wk3 x p n;generalize i:bX ((den x a).F p) _=E;have l:=(C a (by rw[j];simp) p I zOm).F;have t:=(C b (by rw[j];simp) p I zOm).F;have J:=wk3 x p a;have P:=wk3 x p b;simp[go_sem,o];refine fD [0,1,2,3,4,5,7,8,9,10,11,12,6,14,13,15] [(0,0,[]),(1,0,[]),(2,0,[]),(3,0,[]),(4,0,[]),(5,0,[]),(7,0,[]),(8,0,[]),(9,0,[]),(10,0,[]),(11,0,[]),(12,0,[]),(6,1,[8,10,12]),(14,0,[]),(13,1,[]),(15,0,[])] zKr zKr zSi ?_;simp[go_sem,j];cases R:(den x a).F p with
  |error e =>
   rw[R]at l i;subst i;refine fZ l J ?_;simp[go_sem,zF];exact .hf _ (qQ _)
  |ok r =>
   rw[R]at l i;rw[zC]at i;refine tK l.toP J ?_;simp[go_sem,j];cases T:(den x b).F p with
   |error e =>
    rw[T]at t i;subst i;refine fZ t P ?_;simp[go_sem,zF];exact .hf _ (qQ _)
   |ok s =>
    rw[T]at t i;rw[zC]at i;subst i;refine tK t.toP P ?_;cases r<;>cases s<;>simp[go_sem,o]<;>exact .zsc _
end F8
namespace E8
open E3 E7
theorem qnO{x N}(h:OkX x N){s}(i:s<N){t}(g:t∈x.path s):∃ k,it x k s=t:=by
 obtain⟨r,e,l⟩:=qj0 h i;rw[e]at g;obtain⟨j,_,e⟩:=qm.1 g;exact⟨j,e⟩
end E8
namespace EB
end EB
namespace EK
open E3
theorem KI{I j g}:∀{l:List I}{r:List j},mapX g l = .ok r->r.length=l.length
 | [],r,h=>by cases h;rfl
 |a :: l,r,h=>by
  rw[mapX]at h;cases o:g a with
  |error e=>rw[o]at h;cases h
  |ok b =>
   rw[o,zC]at h;cases i:mapX g l with
   |error e=>rw[i]at h;cases h
   |ok s =>
    rw[i,zC]at h;cases h;rw[zz,zz,KI i]
end EK
namespace F9
open Y1 E3 E7 EA EL EO EP EW F1 F2 F3 F4 F5 F6
theorem f45(x N n a b)(I:OkMa x N)(U:n.sD=[a,b])(ih:IH x N n)(p)(hp:OkP x N p)(hq:bd p n)(i:n.op=45):qX qb 78 [eMa x,ePl p,eNd n] (endB (bX (vr [den x a,den x b] n.name p) fun l => .ok (l.all fun e=>e.2))):=by
 refine zh.of_sound ?_;refine qSW call78 func78 rfl {} ?_;have a0:=zV x;have o:=KE x N n a b I U ih p hp hq;have wx:=wk3 x p n;simp[go_sem,i];cases J:vr [den x a,den x b] n.name p with
 |error e =>
  rw[J]at o;refine fZ o wx ?_;simp[go_sem,zF];exact .hf _ (qQ _)
 |ok l =>
  rw[J]at o;have hl:l.length<=8000:=KG J 8000 fun d h=>((ih a (by rw[U];simp) p hp zOm).G d h).len I.n0 (aL I)
  have r:=KC 1 (l.map Prod.fst) (l.map Prod.snd) zSp zSo;rw[KF]at r;rw[UQ]at o;refine tK o.toP wx ?_;generalize insC 1 (l.map Prod.fst) (l.map Prod.snd)=C at *
  simp[go_sem,zC];refine tN r (fun j M=>∃ g,M = .arr [aB ((l.take j).any fun e=>e.2)] :: .arr [aB ((l.take j).all fun e=>e.2)] :: g) (fun _ _=>False) ?_ ?_ ?_ ?_ ?_ ?_
  .simp_all [qB,yP]
  .simp
  .grind
  .rintro j y M hj ⟨g,rfl⟩
   rw[zi,jK]at hj;obtain⟨t,ht,rfl⟩:=hj;obtain⟨P,R⟩:=qj.1 ht;have T:=yc P;rw[R]at T;refine⟨rfl,?_⟩;have ha:((l.take (j+1)).any fun e=>e.2)=((l.take j).any (fun e=>e.2)||t.2):=by rw[T,List.any_append];simp
   have hb:((l.take (j+1)).all fun e=>e.2)=((l.take j).all (fun e=>e.2)&&t.2):=by rw[T,List.all_append];simp
   generalize (l.take j).any (fun e=>e.2)=A at *
   generalize (l.take j).all (fun e=>e.2)=B at *
   cases A<;>cases B<;>cases t2:t.2
   all_goals simp[go_sem]
   all_goals refine tP ?_
   all_goals rw[ha,hb,t2]
   all_goals exact⟨_,rfl⟩
  .rintro M ⟨g,rfl⟩
   rw[zA,qO];generalize (l.any fun e=>e.2)=A at *
   generalize (l.all fun e=>e.2)=B at *
   cases A<;>cases B
   all_goals simp[go_sem,i]
   all_goals exact .zsc _
  grind
theorem f46(x N n a b)(I:OkMa x N)(U:n.sD=[a,b])(ih:IH x N n)(p)(hp:OkP x N p)(hq:bd p n)(i:n.op=46):qX qb 78 [eMa x,ePl p,eNd n] (endB (bX (vr [den x a,den x b] n.name p) fun l => .ok (l.any fun e=>e.2))):=by
 refine zh.of_sound ?_;refine qSW call78 func78 rfl {} ?_;have a0:=zV x;have o:=KE x N n a b I U ih p hp hq;have wx:=wk3 x p n;simp[go_sem,i];cases J:vr [den x a,den x b] n.name p with
 |error e =>
  rw[J]at o;refine fZ o wx ?_;simp[go_sem,zF];exact .hf _ (qQ _)
 |ok l =>
  rw[J]at o;have hl:l.length<=8000:=KG J 8000 fun d h=>((ih a (by rw[U];simp) p hp zOm).G d h).len I.n0 (aL I)
  have r:=KC 1 (l.map Prod.fst) (l.map Prod.snd) zSp zSo;rw[KF]at r;rw[UQ]at o;refine tK o.toP wx ?_;generalize insC 1 (l.map Prod.fst) (l.map Prod.snd)=C at *
  simp[go_sem,zC];refine tN r (fun j M=>∃ g,M = .arr [aB ((l.take j).any fun e=>e.2)] :: .arr [aB ((l.take j).all fun e=>e.2)] :: g) (fun _ _=>False) ?_ ?_ ?_ ?_ ?_ ?_
  .simp_all [qB,yP]
  .simp
  .grind
  .rintro j y M hj ⟨g,rfl⟩
   rw[zi,jK]at hj;obtain⟨t,ht,rfl⟩:=hj;obtain⟨P,R⟩:=qj.1 ht;have T:=yc P;rw[R]at T;refine⟨rfl,?_⟩;have ha:((l.take (j+1)).any fun e=>e.2)=((l.take j).any (fun e=>e.2)||t.2):=by rw[T,List.any_append];simp
   have hb:((l.take (j+1)).all fun e=>e.2)=((l.take j).all (fun e=>e.2)&&t.2):=by rw[T,List.all_append];simp
   generalize (l.take j).any (fun e=>e.2)=A at *
   generalize (l.take j).all (fun e=>e.2)=B at *
   cases A<;>cases B<;>cases t2:t.2
   all_goals simp[go_sem]
   all_goals refine tP ?_
   all_goals rw[ha,hb,t2]
   all_goals exact⟨_,rfl⟩
  .rintro M ⟨g,rfl⟩
   rw[zA,qO];generalize (l.any fun e=>e.2)=A at *
   generalize (l.all fun e=>e.2)=B at *
   cases A<;>cases B
   all_goals simp[go_sem,i]
   all_goals exact .zsc _
  grind
theorem qa8(x):∀ f s acc,(Qj x f s acc).length<=acc.length+f
 | 0,s,acc=>by simp[Qj]
 |f+1,s,acc=>by
  simp only[Qj];split
  .omega
  .have:=qa8 x f (x.nx s) (acc++[s])
   rw[q8,List.length_singleton]at this;omega
theorem KJ(x:Mo)(s):(x.path s).length<=x.m.sK.length+1:=by
 grind [qa8,Mo.path]
theorem UR{x N}(i:OkMa x N){p}(g:OkP x N p):∀ s,s∈x.path p.st->OkP x N ⟨s,p.env⟩:=fun s j=>by
 obtain⟨k,rfl⟩:=E8.qnO i.toOkX g.st j;exact⟨XN i.toOkX g.st k,g.env⟩
theorem Vb(l:List Bool):l.all id=!decide (false∈l):=by
 rw[jM];simp
theorem qnP(l:List Bool):l.any id=decide (true∈l):=by
 rw[jM];simp
theorem f48(x N n a)(o:OkMa x N)(r:n.sD=[a])(P:IH x N n)(p)(J:OkP x N p)(hq:bd p n)(t:n.op=48):qX qb 78 [eMa x,ePl p,eNd n] (endB (bX (mapX (fun s=>(den x a).F ⟨s,p.env⟩) (x.path p.st)) fun l => .ok (l.all id))):=by
 refine zh.of_sound ?_;refine qSW call78 func78 rfl {} ?_;have i:=zV x;have hN:=o.N1;have hl:=o.len;have C:=Ky x N o p.st J.st;have R:=KJ x p.st;have I:WKs [eMa x,aI p.st] [eMa x,aI p.st] := .zk i (.zs .nil);have g:=qaY x (x.path p.st) zOm p a fun s T=>P a (by rw[r];simp) _ (UR o J s T) (by grind)
 have j:WKs [eMa x,lN (x.path p.st),ePl p,eNd a] [eMa x,lN (x.path p.st),ePl p,eNd a] := .zk i (.cons (cA _) (.zk (Uz p) (.zk (qK a) .nil)));simp[go_sem,t];refine fD [0,1,2,3,5,6,7,8,9,4,10,11,12,13] [(0,0,[]),(1,0,[]),(2,0,[]),(3,0,[]),(5,0,[]),(6,0,[]),(7,0,[]),(8,0,[]),(9,0,[]),(4,1,[5,7,9]),(10,1,[]),(11,1,[]),(12,0,[]),(13,0,[])] zKr zKr zSi ?_;simp[go_sem,r];refine tK C I ?_;simp[go_sem,r];cases em:mapX (fun s=>(den x a).F ⟨s,p.env⟩) (x.path p.st) with
 |error e =>
  rw[em]at g;refine fZ g j ?_;simp[go_sem,zF];exact .hf _ (qQ _)
 |ok l =>
  rw[em]at g;have U:l.length=(x.path p.st).length:=EK.KI em;refine fR g.toP j ?_;refine tK (qaZ l false zOm) (.zk (JW l) (.zs .nil)) ?_;have hb:(l.all id)=!decide (false∈l):=Vb l;generalize decide (false∈l)=B at *
  simp[go_sem,zC,hb];exact .zsc _
theorem f49(x N n a)(o:OkMa x N)(r:n.sD=[a])(P:IH x N n)(p)(J:OkP x N p)(hq:bd p n)(t:n.op=49):qX qb 78 [eMa x,ePl p,eNd n] (endB (bX (mapX (fun s=>(den x a).F ⟨s,p.env⟩) (x.path p.st)) fun l => .ok (l.any id))):=by
 refine zh.of_sound ?_;refine qSW call78 func78 rfl {} ?_;have i:=zV x;have hN:=o.N1;have hl:=o.len;have C:=Ky x N o p.st J.st;have R:=KJ x p.st;have I:WKs [eMa x,aI p.st] [eMa x,aI p.st] := .zk i (.zs .nil);have g:=qaY x (x.path p.st) zOm p a fun s T=>P a (by rw[r];simp) _ (UR o J s T) (by grind)
 have j:WKs [eMa x,lN (x.path p.st),ePl p,eNd a] [eMa x,lN (x.path p.st),ePl p,eNd a] := .zk i (.cons (cA _) (.zk (Uz p) (.zk (qK a) .nil)));simp[go_sem,t];refine fD [0,1,2,3,5,6,7,8,9,4,10,11,12] [(0,0,[]),(1,0,[]),(2,0,[]),(3,0,[]),(5,0,[]),(6,0,[]),(7,0,[]),(8,0,[]),(9,0,[]),(4,1,[5,7,9]),(10,1,[]),(11,1,[]),(12,0,[])] zKr zKr zSi ?_;simp[go_sem,r];refine tK C I ?_;simp[go_sem,r];cases em:mapX (fun s=>(den x a).F ⟨s,p.env⟩) (x.path p.st) with
 |error e =>
  rw[em]at g;refine fZ g j ?_;simp[go_sem,zF];exact .hf _ (qQ _)
 |ok l =>
  rw[em]at g;have U:l.length=(x.path p.st).length:=EK.KI em;refine fR g.toP j ?_;refine tK (qaZ l true zOm) (.zk (JW l) (.zs .nil)) ?_;have hb:(l.any id)=decide (true∈l):=qnP l;generalize decide (true∈l)=B at *
  simp[go_sem,zC,hb];exact .zsc _
theorem f50(x N n a)(g:OkMa x N)(j:n.sD=[a])(P:IH x N n)(p)(C:OkP x N p)(T:bd p n)(l:n.op=50):qX qb 78 [eMa x,ePl p,eNd n] (endB ((den x a).F ⟨x.nx p.st,p.env⟩)):=by
 refine zh.of_sound ?_;refine qSW call78 func78 rfl {} ?_;have R:=zV x;have i:=(P a (by rw[j];simp) _ (OkP.nx g.toOkM C) (by grind)).F;have I:=wk3 x ⟨x.nx p.st,p.env⟩ a;have U:=g.N1;have hl:=g.len;have o:=XP x g.loop zOm p.st (zW1 C.st);have t:WKs [eMd x.m,aI p.st] [eMd x.m,aI p.st] := .zk (yk x.m) (.zs .nil);simp[go_sem,l];refine fD [0,1,2,3,4,5,6,8,9,11,12,13,14,7,10,15,16] [(0,0,[]),(1,0,[]),(2,0,[]),(3,0,[]),(4,0,[]),(5,0,[]),(6,0,[]),(8,0,[]),(9,0,[]),(11,0,[]),(12,0,[]),(13,0,[]),(14,0,[]),(7,1,[9,12,14]),(10,0,[]),(15,1,[]),(16,0,[])] zKr zKr zSi ?_;simp[go_sem,j];refine tK o t ?_;simp[go_sem,j];cases J:(den x a).F ⟨x.nx p.st,p.env⟩ with
 |error e =>
  rw[J]at i;refine fZ i I ?_;simp[go_sem];exact .hf _ (qQ _)
 |ok r =>
  rw[J]at i;refine fR i.toP I ?_;exact .zsc _
theorem f51(x N n a b)(g:OkMa x N)(i:n.sD=[a,b])(o:IH x N n)(p)(j:OkP x N p)(R:bd p n)(l:n.op=51):qX qb 78 [eMa x,ePl p,eNd n] (endB (untX (fun s=>(den x a).F ⟨s,p.env⟩) (fun s=>(den x b).F ⟨s,p.env⟩) (x.path p.st) false false)):=by
 refine zh.of_sound ?_;refine qSW call78 func78 rfl {} ?_;have J:=zV x;have T:=g.N1;have U:=g.len;have P:=KJ x p.st;have t:=qm4 x N n a b g i p j (fun s C=>⟨o a (by rw[i];simp) _ (UR g j s C) (by grind),o b (by rw[i];simp) _ (UR g j s C) (by grind)⟩) zOm;have I:=wk3 x p n;generalize untX (fun s=>(den x a).F ⟨s,p.env⟩) (fun s=>(den x b).F ⟨s,p.env⟩) (x.path p.st) false false=E at *
 simp[go_sem,l];cases E with
 |error e =>
  refine fZ t I ?_;simp[go_sem];exact .hf _ (qQ _)
 |ok r =>
  refine fR t.toP I ?_;exact .zsc _
theorem f47(x N n)(hM:OkMa x N)(a0:n.sD.length<=1000000)(ih:IH x N n)(p)(hp:OkP x N p)(hq:bd p n)(J:n.op=47):qX qb 78 [eMa x,ePl p,eNd n] (endB (bX (mapX (fun d:Den=>d.E p) (n.sD.map (den x))) fun _ => .error 45)):=by
 refine zh.of_sound ?_;refine qSW call78 func78 rfl {} ?_;have a1:=zV x;generalize T:mapX (fun d:Den=>d.E p) (n.sD.map (den x))=E;simp[go_sem,J];refine aK n.sD.length (fun k U=>∃ t,mapX (fun d:Den=>d.E p) ((n.sD.take k).map (den x)) = .ok t/\U.tm 0=eMa x/\U.tm 4 = .ip (cPl p)/\U.tm 282=lNd n.sD/\U.tm 283=aI n.sD.length/\U.tm 284=aI k) ?_ ?_
 .exact ⟨[],rfl,zSi,zSi,zSi,zSi,zSi⟩
 rintro k U hk ⟨t,C,e0,e4,o,g,i⟩;by_cases j:k<n.sD.length
 .have w1:=zWk k
  have I:=(ih n.sD[k] (qp j) p hp zOm).E;have hw:=wk3 x p n.sD[k];have l:=ZZ (l2:=(n.sD.drop k).map (den x)) C;rw[<-zb,vC,zp j,zS,mapX,T]at l;simp[go_sem,e0,e4,o,g,i,j];cases P:(den x n.sD[k]).E p with
  |error e =>
   rw[P]at I l;rw[zF,zF]at l;subst l;refine fZ I hw ?_;simp[go_sem,zF];exact .hf _ (qQ _)
  |ok r =>
   rw[P]at I;refine tK I.toP hw ?_;simp[go_sem,i,w1];refine⟨j,aA ⟨t++[r],?_,zS1 e0,zS1 e4,by simp[go_sem,o],by simp[go_sem,g],zSi⟩⟩;rw[yc j,zb,ZZ C,zS,List.map_nil,mapX,P];rfl
 .have R:k=n.sD.length:=by omega
  subst R;rw[qO,T]at C;subst C;rw[zC];simp[go_sem,g,i];refine fZ (wt 45) (wkI 45) ?_;simp[go_sem];exact .hf _ (qQ _)
theorem fNo(x n p)(h:∀ k,(30<=k/\k<=51)->n.op≠k):qX qb 78 [eMa x,ePl p,eNd n] (endB (.error 43)):=by
 refine zh.of_sound ?_;refine qSW call78 func78 rfl {} ?_;have a8:=zV x;have g:=h 30 zDe;have i:=h 31 zDe;have j:=h 32 zDe;have l:=h 33 zDe;have o:=h 34 zDe;have r:=h 35 zDe;have t:=h 36 zDe;have C:=h 37 zDe;have I:=h 38 zDe;have J:=h 39 zDe;have P:=h 40 zDe;have R:=h 41 zDe;have T:=h 42 zDe;have U:=h 43 zDe;have a0:=h 44 zDe;have a1:=h 45 zDe;have a2:=h 46 zDe;have a3:=h 47 zDe;have a4:=h 48 zDe;have a5:=h 49 zDe;have a6:=h 50 zDe;have a7:=h 51 zDe;simp[go_sem,g,i,j,l,o,r,t,C,I,J,P,R,T,U,a0,a1,a2,a3,a4,a5,a6,a7];refine fZ (wt 43) (wkI 43) ?_;simp[go_sem];exact .hf _ (qQ _)
end F9
namespace FA
open Y1 Y9 P2 E3 EA F1 F2 F3 F4 F7 F8 F9
theorem yS{f:Nat}{l A E}(h:qX qb f l (endB A))(e:A=E):qX qb f l (endB E):=e ▸ h
theorem qnQ(x N n)(i:WfN n)(j:OkMa x N)(l:IH x N n)(p)(o:OkP x N p)(r:bd p n) :
  qX qb 78 [eMa x,ePl p,eNd n] (endB ((den x n).F p)):=by
 rw[Uw];show qX _ _ _ (endB (opF x n.op n.name (n.sD.map (den x)) p));by_cases t:n.op=30
 .exact yS (f30 x N n i j l p o r t) (by rw[t];rfl)
 by_cases C:n.op=31
 .exact yS (f31 x N n i j l p o r C) (by rw[C];rfl)
 by_cases I:n.op=32
 .obtain ⟨a,b,g⟩:=js i zOm
  exact yS (f32 x N n a b j g l p o r I) (by rw[I,g];rfl)
 by_cases J:n.op=33
 .obtain ⟨a,b,g⟩:=js i zOm
  exact yS (f33 x N n a b j g l p o r J) (by rw[J,g];rfl)
 by_cases P:n.op=34
 .obtain ⟨a,g⟩:=vZ i zOm
  exact yS (f34 x N n a j g l p o r _ (.inl ⟨P,rfl⟩)) (by rw[P,g];rfl)
 by_cases R:n.op=35
 .obtain ⟨a,g⟩:=vZ i zOm
  exact yS (f34 x N n a j g l p o r _ (.inr (.inl ⟨R,rfl⟩))) (by rw[R,g];rfl)
 by_cases T:n.op=36
 .obtain ⟨a,g⟩:=vZ i zOm
  exact yS (f34 x N n a j g l p o r _ (.inr (.inr (.inl ⟨T,rfl⟩)))) (by rw[T,g];rfl)
 by_cases U:n.op=37
 .obtain ⟨a,g⟩:=vZ i zOm
  exact yS (f34 x N n a j g l p o r _ (.inr (.inr (.inr ⟨U,rfl⟩)))) (by rw[U,g];rfl)
 by_cases a0:n.op=38
 .obtain ⟨a,b,g⟩:=js i zOm
  exact yS (f38 x N n a b j g l p o r _ (.inl ⟨a0,rfl⟩)) (by rw[a0,g];rfl)
 by_cases a1:n.op=39
 .obtain ⟨a,b,g⟩:=js i zOm
  exact yS (f38 x N n a b j g l p o r _ (.inr ⟨a1,rfl⟩)) (by rw[a1,g];rfl)
 by_cases a2:n.op=40
 .obtain ⟨a,g⟩:=vZ i zOm
  exact yS (f40 x N n a j g l p o r a2) (by rw[a2,g];rfl)
 by_cases a3:n.op=41
 .obtain ⟨a,b,g⟩:=js i zOm
  exact yS (f41 x N n a b j g l p o r _ (.inl ⟨a3,rfl⟩)) (by rw[a3,g];rfl)
 by_cases a4:n.op=42
 .obtain ⟨a,b,g⟩:=js i zOm
  exact yS (f41 x N n a b j g l p o r _ (.inr (.inl ⟨a4,rfl⟩))) (by rw[a4,g];rfl)
 by_cases a5:n.op=43
 .obtain ⟨a,b,g⟩:=js i zOm
  exact yS (f41 x N n a b j g l p o r _ (.inr (.inr (.inl ⟨a5,rfl⟩)))) (by rw[a5,g];rfl)
 by_cases a6:n.op=44
 .obtain ⟨a,b,g⟩:=js i zOm
  exact yS (f41 x N n a b j g l p o r _ (.inr (.inr (.inr ⟨a6,rfl⟩)))) (by rw[a6,g];rfl)
 by_cases a7:n.op=45
 .obtain ⟨a,b,g⟩:=js i zOm
  exact yS (f45 x N n a b j g l p o r a7) (by rw[a7,g];rfl)
 by_cases a8:n.op=46
 .obtain ⟨a,b,g⟩:=js i zOm
  exact yS (f46 x N n a b j g l p o r a8) (by rw[a8,g];rfl)
 by_cases a9:n.op=47
 .exact yS (f47 x N n j (zW1 i.small.len) l p o r a9) (by rw[a9];rfl)
 by_cases aa:n.op=48
 .obtain ⟨a,g⟩:=vZ i zOm
  exact yS (f48 x N n a j g l p o r aa) (by rw[aa,g];rfl)
 by_cases ab:n.op=49
 .obtain ⟨a,g⟩:=vZ i zOm
  exact yS (f49 x N n a j g l p o r ab) (by rw[ab,g];rfl)
 by_cases ad:n.op=50
 .obtain ⟨a,g⟩:=vZ i zOm
  exact yS (f50 x N n a j g l p o r ad) (by rw[ad,g];rfl)
 by_cases ae:n.op=51
 .obtain ⟨a,b,g⟩:=js i zOm
  exact yS (f51 x N n a b j g l p o r ae) (by rw[ae,g];rfl)
 refine yS (fNo x n p fun k g e=>?_) ?_
 .omega
 simp_all[opF,if_neg]
theorem evX(x N)(j:OkMa x N):∀ m n,szN n<=m->WfN n->∀ p,OkP x N p->bd p n->Ev3 x p n
 | 0,n,I,_,_,_,_=>by
  obtain⟨op,nm,i,ks,q⟩:=n;simp only[szN,Nd.mk.sizeOf_spec]at I;omega
 |m+1,n,I,l,p,g,o=>by
  have t:IH x N n:=fun k C p g o=>evX x N j m k (zW1 (yr C)) (l.kid C) p g (by have:=qmV C;show _+_<=_;omega)
  exact⟨exprX x N n l j t p g o,qm5 x N n l j t p g o,qnQ x N n l j t p g o,fun r h=>qaT j.toOkM _ n (qr _) l p r g h⟩
end FA
namespace FB
open Y1 Y9 P2 YF E3 EA F1 F2 F3 FA
def outB:XE Bool->AV
 | .ok r => .tup [aB r,aI 0]
 | .error e => .tup [aB false,aI e]
theorem wkM(x:Mo):WKs [eTS x.ts,eMd x.m] [eTS x.ts,eMd x.m] := .zk (zm x.ts) (.zk (yk x.m) .nil)
theorem qnR(x N n)(o:WfN n)(i:OkMa x N)(p)(t:OkP x N p)(C:bd p n) :
  qh qb 35 [eTS x.ts,eMd x.m,aI p.st,lPm p.env,eNd n] (outB ((den x n).F p)):=by
 have hf:=(evX x N i (szN n) n (qr _) o p t C).F;have j:=wk3 x p n;generalize (den x n).F p=E at *
 refine qX.toP ?_;refine zh.of_sound ?_;refine fL call35 func35 rfl (Nat.le_of_ble_eq_true zKr) zKr (pl:={}) ?_;simp[go_sem];refine tC (g:=76) (first:=[]) (caps:=[]) zSi call76 ?_;simp[go_sem];refine qi.tail 7 zKr ?_;simp[go_sem];refine fR (qkD x i.gsc) (wkM x) ?_;cases E with
 |error e =>
  refine fZ hf j ?_;simp[go_sem];refine yX.mono (qkF [.arr [aI 0]] 0 0 e rfl) ?_;rintro _ rfl;simp[go_sem];exact .hf _ (HF.tup (by simp only[qw,qH,or_false,forall_eq_or_imp,forall_eq];exact⟨HF.sc _,HF.sc _⟩))
 |ok r =>
  refine fR hf.toP j ?_;refine yX.mono (qkE [.arr [aI 0]] 0 0 rfl) ?_;rintro _ rfl;simp[go_sem];exact .hf _ (HF.tup (by simp only[qw,qH,or_false,forall_eq_or_imp,forall_eq];exact⟨HF.sc _,HF.sc _⟩))
end FB
namespace FC
open Y1 P2 YF E3 EO EP F1 F2 F3 F4 F6 F8 FB
def fmV:XE Bool->Bool×Int
 | .ok v=>(v,0)
 | .error e=>(false,e)
theorem qnS(q):outB q = .tup [aB (fmV q).1,aI (fmV q).2]:=by cases q<;>rfl
def Zq(I:Nd->Nd×Int)(x:Mo):List Nd->Bool->Bool×Int
 | [],a=>(a,0)
 |b :: l,a=>if (I b).2≠0 then (false,(I b).2) else if (fmV ((den x (I b).1).F ⟨0,[]⟩)).2≠0 then (false,(fmV ((den x (I b).1).F ⟨0,[]⟩)).2) else Zq I x l (a&&(fmV ((den x (I b).1).F ⟨0,[]⟩)).1)
theorem Vc(xs:List Nd):zl 5 (xs.map cNd):=fun r g=>by
 obtain⟨n,_,rfl⟩:=qm.1 g;exact⟨by cases n;rfl,Yq n⟩
theorem put6(a n):putCells [aS ⟨#[]⟩,aI 0,aS ⟨#[]⟩,aI 0,.lst true [],aI 0] 0 (aS a :: cNd n)=aS a :: cNd n:=by cases n;rfl
theorem qnT(x N)(hM:OkMa x N)(hN:0<N)(I n)(hl:x.ts.sP.length<=1000)(hI:∀ b,b∈x.ts.sP.map Prod.snd++[n]->qh qb 34 [eTS x.ts,eNd b] (.tup [eNd (I b).1,aI (I b).2])/\((I b).2=0->WfN (I b).1/\dN (I b).1<=999999)) :
  qh qb 10 [eTS x.ts,eMd x.m,eNd n] (.tup [aB (Zq I x (x.ts.sP.map Prod.snd++[n]) true).1,aI (Zq I x (x.ts.sP.map Prod.snd++[n]) true).2]):=by
 generalize hR:Zq I x (x.ts.sP.map Prod.snd++[n]) true=R;refine qSU call10 func10 rfl ?_;refine aK x.ts.sP.length (fun k U=>U.tm 3 = .ip (cTS x.ts)/\U.tm 4 = .ip (cMd x.m)/\U.tm 5 = .ip (cNd n)/\U.tm 8=aB true/\U.tm 18=lFa x.ts.sP/\U.tm 19=aI x.ts.sP.length/\U.tm 20=aI k/\Own U.mu 5 (U.tm 9) (((x.ts.sP.take k).map Prod.snd).map cNd)) ?_ ?_
 .exact ⟨zSi,zSi,zSi,zSi,zSi,zSi,zSi,.inl zSi⟩
 rintro k U hk ⟨e3,e4,e5,e8,T,o,p,ho⟩;by_cases l:k<x.ts.sP.length
 .have w1:=zWk k
  simp[go_sem,T,o,p,l,put6];refine qy.ownB (e:=35) (sz:=5) (bt:=64) (zv := .agg [aI 0,aS ⟨#[]⟩,aI 0,.lst true [],aI 0]) (xs:=((x.ts.sP.take k).map Prod.snd).map cNd) (ys:=[cNd x.ts.sP[k].2]) zSi zSi zSi rfl rfl zOm zOm (Own.push ho _) (by simp[qD]) (Vc _) (Vc [_]) zSo ?_;intro a0 j t _ _ _;simp[go_sem,p,l,w1];refine aA ⟨zS1 e3,zS1 e4,zS1 e5,zS1 e8,zS1 T,zS1 o,zSi,?_⟩;rw[yc l,zb,zb];simpa[go_sem] using t
 .have C:k=x.ts.sP.length:=by omega
  subst C;rw[qO]at ho;simp[go_sem,e5,o,p];refine qy.ownB (e:=35) (sz:=5) (bt:=64) (zv := .agg [aI 0,aS ⟨#[]⟩,aI 0,.lst true [],aI 0]) (xs:=(x.ts.sP.map Prod.snd).map cNd) (ys:=[cNd n]) zSi zSi zSi rfl rfl zOm zOm ho (by simp[qD]) (Vc _) (Vc [_]) zSo ?_;intro a0 j t _ _ _;have a1:Own j 5 a0 ((x.ts.sP.map Prod.snd++[n]).map cNd):=by rw[zb];exact t
  have a5:(x.ts.sP.map Prod.snd++[n]).length<=1001:=zSo;generalize x.ts.sP.map Prod.snd++[n]=L at *
  simp[go_sem];refine tT (aI L.length) (by rcases a1 with h|⟨b,h,_⟩<;>rw[h]<;>simp) ?_;simp[go_sem];refine qk.fz ?_;refine FzQ.ownB (d:=33) zSi a1 (Vc L) (fun r hr c hc=>?_) fun a6 full _ _=>?_
  .obtain ⟨b,_,rfl⟩:=qm.1 hr
   exact vG b c hc
  refine aK L.length (fun k U=>∃ a,U.tm 3 = .ip (cTS x.ts)/\U.tm 4 = .ip (cMd x.m)/\U.tm 8=aB a/\U.tm 33 = .lst full (L.map cNd)/\U.tm 34=aI L.length/\U.tm 35=aI k/\Zq I x (L.drop k) a=R) ?_ ?_
  .exact ⟨true,zS1 e3,zS1 e4,zS1 e8,zSi,zSi,zSi,hR⟩
  rintro k U hk ⟨a,f3,f4,f8,f33,f34,f35,hV⟩;by_cases l:k<L.length
  .have w1:=zWk k
   obtain⟨hi,a3⟩:=hI L[k] (qp l);rw[zp l,Zq]at hV;have wi:WKs [eTS x.ts,eNd L[k]] [eTS x.ts,eNd L[k]] := .zk (zm _) (.zk (qK _) .nil);simp[go_sem,f3,f33,f34,f35,l];refine tK hi wi ?_;generalize a7:I L[k]=ib at *
   obtain⟨b',e'⟩:=ib;by_cases he:e'=0
   .subst he
    obtain⟨a4,a2⟩:=a3 rfl;replace a2:dN b'<=999999:=a2;rw[if_neg zSp]at hV;have hf:=qnR x N b' a4 hM ⟨0,[]⟩ ⟨hN,zSp⟩ (by show 0+_<=_;omega);have wf:WKs [eTS x.ts,eMd x.m,aI (0:Nat),.lst true [],eNd b'] [eTS x.ts,eMd x.m,aI (0:Nat),lPm [],eNd b'] := .zk (zm _) (.zk (yk _) (.zs (.cons (WK.lst fun r hr=>absurd hr qH) (.zk (qK _) .nil))));rw[qnS]at hf;simp only at hV;generalize fmV ((den x b').F ⟨0,[]⟩)=q at *
    obtain⟨v,e2⟩:=q;simp[go_sem,f3,f4];refine tK hf wf ?_;by_cases P:e2=0
    .subst P
     rw[if_neg zSp]at hV;cases a<;>cases v
     all_goals simp[go_sem,f8,f35,l,w1]
     all_goals exact aA ⟨_,zS1 f3,zS1 f4,zSi,by simp[go_sem,f33],by simp[go_sem,f34],zSi,hV⟩
    .rw [if_pos P]at hV
     subst hV;simp[go_sem,P];exact .hf _ (HF.tup (by simp only[qw,qH,or_false,forall_eq_or_imp,forall_eq];exact⟨HF.sc _,HF.sc _⟩))
   .rw [if_pos he]at hV
    subst hV;simp[go_sem,he];exact .hf _ (HF.tup (by simp only[qw,qH,or_false,forall_eq_or_imp,forall_eq];exact⟨HF.sc _,HF.sc _⟩))
  .have C:k=L.length:=by omega
   subst C;rw[zW,Zq]at hV;subst hV;simp[go_sem,f8,f34,f35];exact .hf _ (HF.tup (by simp only[qw,qH,or_false,forall_eq_or_imp,forall_eq];exact⟨HF.sc _,HF.sc _⟩))
end FC
namespace FD
open Y1 Y9 Q4 F2
theorem qnU{ks m}(h:∀ k,k∈ks->dN k<=m):dNs ks<=m:=by
 induction ks with
 |nil=>simp[dNs]
 |cons a l g =>
  simp only[dNs];have:=h a zSp;have:=g fun k i=>h k (zP1 i)
  omega
theorem qa9:∀ m n g,szN n<=m->forN n g=true->(dN n:Int)<=g
 | 0,n,g,l,_=>by
  obtain⟨op,nm,i,ks,q⟩:=n;simp only[szN,Nd.mk.sizeOf_spec]at l;omega
 |m+1,n,g,l,h=>by
  rw[J8]at h;split at h
  .cases h
  .simp only[qE]at h
   have o:=Kw h.2.2;have:dNs n.sD<=(g-1).toNat:=qnU fun k j=>by
    have:=qa9 m k (g-1) (zW1 (yr j)) (o k j);omega
   rw[qaU];omega
theorem qnV{n}(h:zc n=true):dN n<=24:=by
 simp only[zc,qE]at h;have:=qa9 (szN n) n 24 (qr _) h.2;omega
theorem qbA:∀ x,(∀ a,a∈x->0<=a)->0<=sumI x:=fun x g=>by
 induction x with
 |nil=>simp[sumI]
 |cons a x i =>
  have o:=g a zSp;have j:=i fun b l=>g b (zP1 l)
  simp only[sumI,List.foldr_cons]at j⊢;omega
theorem qnW:∀ l i,(∀ a,a∈l->0<=a)->i<l.length->0<=gI l i/\0<=sumI (l.take i)/\sumI (l.take i)+gI l i<=sumI l:=fun l i h g=>by
 have e:sumI l=sumI (l.take (i+1))+sumI (l.drop (i+1)):=by rw[<-nr,vC]
 rw[uI l i g]at e;rw[uH g];have p:=qbA (l.drop (i+1)) fun a j=>h a (List.mem_of_mem_drop j)
 have o:=qbA (l.take i) fun a j=>h a (jC j)
 exact⟨h _ (qp g),o,zOm⟩
end FD
namespace GF
open E1 EO EQ EW F4 GD
abbrev rP(p:Int×Int):List AV:=[aI p.1,aI p.2]
abbrev lP(ps:List (Int×Int)):AV := .lst false (ps.map rP)
theorem Vd(xs:List (Int×Int)):zl 2 (xs.map rP):=fun r g=>by
 obtain⟨n,_,rfl⟩:=qm.1 g;exact⟨rfl,rfl⟩
abbrev eBd(b:Bd):AV := .agg (cBd b)
theorem KL(b):∀ c,c∈cBd b->HF c:=by
 intro c g;simp at g;rcases g with rfl|rfl|rfl|rfl
 .exact HF.sc _
 .exact zg _
 .exact HF.sc _
 .exact zg _
theorem KM(b):HF (eBd b):=HF.agg (KL b)
theorem qnX(x):qh qb 162 [eBd x] (.fn (.func 201) [] [.ip (cBd x)]):=by
 refine qSU call162 func162 rfl ?_;refine .hf _ (HF.fn (fun c g=>by simp at g) (fun c g=>?_))
 grind [HF.ip,KL]
def uS(x:Bd):List Int:=x.up.ts.filter fun t=>!decide (t∈x.lo.ts)
theorem qnY{I:Type}(p)(l:List I)(k h)(g:p l[k]=true):(l.filter p)[((l.take k).filter p).length]?=some l[k]:=by
 have e:l=l.take k++l[k] :: l.drop (k+1):=by
  rw[<-zp h,vC]
 have i:l.filter p=(l.take k).filter p++l[k] :: (l.drop (k+1)).filter p:=by
  conv=>lhs;rw[e]
  rw[List.filter_append,List.filter_cons,if_pos g]
 rw[i,zG (qr _)];simp
theorem qnZ{I:Type}(p)(l:List I)(k h):((l.take (k+1)).filter p).length=((l.take k).filter p).length+(if p l[k]=true then 1 else 0):=by
 rw[List.take_add_one,qz h,List.filter_append];cases g:p l[k]<;>simp[g]
theorem qn0(x)(hl:x.up.ts.length<=1000000000)(R:x.lo.ts.length<=1000000000)(hs:x.lo.ts.Pairwise (·<=·)):ja qb 201 [.ip (cBd x)] ((uS x).map fun t=>[aI t]):=by
 refine ja.of call201 fun i I Ix hS hX hY C h0=>?_
 refine qSW call201 func201 rfl {} ?_;simp[go_sem];refine tA (fun m U=>∃ k,m=x.up.ts.length-k/\k<=x.up.ts.length/\U.tm 0 = .yl i/\U.tm 1 = .ip (cBd x)/\U.tm 9=lI x.up.ts/\U.tm 10=aI x.up.ts.length/\U.tm 11=aI (k:Nat)/\I ((x.up.ts.take k).filter fun t=>!decide (t∈x.lo.ts)).length U.mu) x.up.ts.length ?_ ?_
 .exact ⟨0,zOm,zOm,zSi,zSi,zSi,zSi,zSi,zVs h0⟩
 rintro m U ⟨k,rfl,hk,T,e1,e9,o,p,P⟩;by_cases r:k<x.up.ts.length
 .simp [go_sem,e1,e9,o,p,r]
  refine tK (binU x.lo.ts x.up.ts[k] R hs) (.zk (zg _) (.zs .nil)) ?_;have g:=qnZ (fun t=>!decide (t∈x.lo.ts)) x.up.ts k r;by_cases l:x.up.ts[k]∈x.lo.ts
  .simp [go_sem,p,l]
   rw[if_neg (zUs l),Nat.add_zero]at g;refine Keep.loop (x.up.ts.length-(k+1)) zOm ⟨k+1,rfl,zOm,zS1 T,zS1 e1,zS1 e9,zS1 o,?_,?_⟩
   .simp [go_sem];exact zWr
   .rw [g];simpa[go_sem] using P
  .simp [go_sem,T,l]
   rw[if_pos (zUs l)]at g;have J:((uS x).map fun t=>[aI t])[((x.up.ts.take k).filter fun t=>!decide (t∈x.lo.ts)).length]?=some [aI x.up.ts[k]]:=by
    rw[zi,uS,qnY _ _ k r (zUs l)];rfl
   refine qe.yield (hY _ _ _ J P) ?_;rintro b j (⟨rfl,a0⟩|⟨rfl,a1⟩)
   .simp [go_sem,p]
    refine Keep.loop (x.up.ts.length-(k+1)) zOm ⟨k+1,rfl,zOm,zS1 T,zS1 e1,zS1 e9,zS1 o,?_,?_⟩
    .simp [go_sem];exact zWr
    .rw [g];simpa[go_sem] using a0
   .simp [go_sem]
    exact .inr a1
 .have a2:k=x.up.ts.length:=by omega
  subst a2;rw[qO]at P;simp[go_sem,o,p];exact .inl P
def jh(k:Nat)(x:Bd):List (Int×Int):=(uS x).map fun t=>((k:Int),t)
def qN:List Bd->Nat->List (Int×Int)
 | [],_=>[]
 |x :: l,k=>jh k x++qN l (k+1)
theorem qbB:∀ l m k,qN (l++m) k=qN l k++qN m (k+l.length)
 | [],m,k=>by simp[qN]
 |x :: l,m,k=>by
  rw[yP,qN,qN,qbB l m (k+1),zt];have:k+1+l.length=k+(x :: l).length:=zSo;rw[this]
theorem qbC(l:List Bd)(k h):qN (l.take (k+1)) 0=qN (l.take k) 0++jh k l[k]:=by
 rw[List.take_add_one,qz h];show qN (l.take k++[l[k]]) 0=_;rw[qbB];have:(l.take k).length=k:=zSo;rw[this,yd];simp[qN]
structure Zr (x:Bd):Prop where
 up:x.up.ts.length<=1000000
 lo:x.lo.ts.length<=1000000
 sorted:x.lo.ts.Pairwise (·<=·)
theorem US:∀ l k,(∀ x,x∈l->Zr x)->(qN l k).length<=l.length*1000000
 | [],k,_=>by simp[qN]
 |x :: l,k,h=>by
  have i:=US l (k+1) (fun y g=>h y (zP1 g));have j:(jh k x).length<=1000000:=by
   rw[jh,zA];exact zL (List.length_filter_le _ _) (h x zSp).up
  simp only[qN,q8,zz];omega
theorem cP{mu av xs}(h:Own mu 2 av (xs.map rP)):Rd mu av (lP xs):=
 h.rd (Vd xs).ok fun r i c g=>by
  obtain⟨n,_,rfl⟩:=qm.1 i;simp at g;rcases g with rfl|rfl<;>exact HF.sc _
theorem freeU(l)(hl:l.length<=1000)(hb:∀ x,x∈l->Zr x):qh qb 109 [lBd l] (lP (qN l 0)):=by
 refine qSU call109 func109 rfl ?_;refine tA (fun m U=>∃ k C p,m=l.length-k/\k<=l.length/\U.tm 3 = .ptr 0 0/\U.tm 7=lBd l/\U.tm 8=aI l.length/\U.tm 9=aI (k:Nat)/\U.mu = .arr [C] :: p/\Own U.mu 2 C ((qN (l.take k) 0).map rP)/\qn C≠some 0) l.length ?_ ?_
 .refine ⟨0,.lst true [],[],zOm,zOm,zSi,zSi,zSi,zSi,zSi,?_,by simp[qn]⟩
  simp[go_sem,qN];exact .inl rfl
 rintro m U ⟨k,C,p,rfl,hk,e3,e7,e8,e9,hm,ho,aa⟩;by_cases T:k<l.length
 .have hx:=hb _ (qp T)
  have af:(qN (l.take (k+1)) 0).length<=1000000000:=by
   grind [US,jC,Nat.mul_le_mul_right]
  have a0:=qbC l k T;rw[hm]at ho;have ab:qn C≠some (p.length+1):=fun h=>by have:=Own.lt ho h;simp at this
  simp[go_sem,e7,e8,e9,hm,T];refine fR (qnX l[k]) (.zk (KM _) .nil) ?_;refine tN (qn0 l[k] (zW1 hx.up) (zW1 hx.lo) hx.sorted) (fun j M=>∃ C o,M = .arr [C] :: o/\M[p.length+1]?=some (.arr [aI k])/\Own M 2 C ((qN (l.take k) 0++(jh k l[k]).take j).map rP)/\qn C≠some 0/\qn C≠some (p.length+1)) (fun _ _=>False) ?_ ?_ ?_ ?_ ?_ ?_
  .refine ⟨C,_,by simp only[qB,yP];rfl,zSi,?_,aa,ab⟩
   have:=Own.push ho [Cell.arr [aI k],Cell.arr (cBd l[k]),.dead];simp_all[go_sem]
  .rintro j M ⟨C,o,rfl,h1,h2,h3,h4⟩
   exact⟨C,o++[.dead],rfl,by grind,Own.push h2 _,h3,h4⟩
  .grind
  .rintro j x M hj ⟨C,o,rfl,h1,h2,h3,h4⟩
   rw[zi,jK]at hj;obtain⟨t,ht,rfl⟩:=hj;have ag:j<(uS l[k]).length:=(qj.1 ht).1;have ah:(jh k l[k]).take (j+1)=(jh k l[k]).take j++[((k:Int),t)]:=by
    rw[List.take_add_one];have:(jh k l[k])[j]?=some ((k:Int),t):=by rw[jh,zi,ht];rfl
    rw[this];rfl
   have ai:(qN (l.take k) 0++(jh k l[k]).take j).length<=1000000000:=by
    grind
   refine⟨rfl,?_⟩;have ad:=(qj.1 h1).1;have a3:=h1;simp at a3;simp[go_sem,e3,a3];refine qy.ownB (e:=120) (sz:=2) (bt:=16) (zv := .agg [aI 0,aI 0]) (xs:=(qN (l.take k) 0++(jh k l[k]).take j).map rP) (ys:=[rP ((k:Int),t)]) zSi zSi zSi rfl rfl zOm zOm h2 (by simp[qD]) (Vd _) (Vd [((k:Int),t)]) (by grind) ?_;intro P a4 a1 a5 aj ak;have ae:=a5 0 zSp h3;have a6:=a5 (p.length+1) ad h4;rw[h1]at a6;obtain⟨I,rfl⟩:∃ I,a4 = .arr [C] :: I:=by
    cases a4 with
    |nil=>simp at ae
    |cons c r=>grind
   have R:qn P≠some 0:=fun h=>by grind
   have a7:qn P≠some (p.length+1):=fun h=>by grind
   have a8:=Own.set a1 (i:=0) (.arr [P]) R;have a9:(qN (l.take k) 0++(jh k l[k]).take j).map rP++[rP ((k:Int),t)]=(qN (l.take k) 0++(jh k l[k]).take (j+1)).map rP:=by
    grind
   rw[a9]at a8;simp[go_sem,e3,Own.one a1,Own.cells a1];exact tP ⟨P,I,rfl,zUs a6,zUs a8,R,a7⟩
  .rintro M ⟨C,o,rfl,h1,h2,h3,h4⟩
   have a2:(jh k l[k]).take ((uS l[k]).map fun t=>[aI t]).length=jh k l[k]:=by
    simp_all[zA,zQ,jh,qr]
   rw[a2,<-a0]at h2;simp[go_sem,e9];refine Keep.loop (l.length-(k+1)) zOm ⟨k+1,C,o,rfl,zOm,zS1 e3,zS1 e7,zS1 e8,?_,zSi,zVs h2,h3⟩;simp[go_sem];grind [zT]
  grind
 .have al:k=l.length:=by omega
  simp_all[go_sem,qO,cP]
end GF
namespace GH
open P1 YF E3 EO EQ ER EW F1 F4 GF GG
abbrev lMd(l:List Md):AV := .lst false (l.map cMd)
theorem YT(xs:List Md):zl 4 (xs.map cMd):=fun r g=>by
 obtain⟨n,_,rfl⟩:=qm.1 g;exact⟨rfl,rfl⟩
theorem KN:∀ r c x,x∈subL c r->∀ y,y∈x->y∈c\/y∈r
 | [],c,x,h,y,g=>by grind [subL,qT]
 |z :: r,c,x,h,y,g=>by
  rw[subL,qJ]at h;rcases h with h|h
  .rcases KN r c x h y g with h|h
   .exact .inl h
   .exact .inr (zP1 h)
  .rcases KN r _ x h y g with h|h
   .rcases qJ.1 h with h|h
    .exact .inl h
    .rw [qT]at h;subst h;exact .inr zSp
   .exact .inr (zP1 h)
def vH(inst:Nat->List (List AV)->Md)(cs:List (List AV))(k:Nat):List Md:=(qt k).flatMap fun s=>(subL [] cs).map (inst s)
theorem qbD(inst cs k):vH inst cs (k+1)=vH inst cs k++(subL [] cs).map (inst k):=by
 unfold vH;rw[List.range_succ,List.flatMap_append];simp
theorem KO(inst cs):∀ k,(vH inst cs k).length=k*(subL [] cs).length
 | 0=>by simp[vH]
 |k+1=>by rw[qbD,q8,KO inst cs k,zA,Nat.succ_mul]
theorem cG{mu av xs}(h:Own mu 4 av (xs.map cMd)):Rd mu av (lMd xs):=
 h.rd (YT xs).ok fun r i c g=>by
  obtain⟨n,_,rfl⟩:=qm.1 i;simp at g;rcases g with rfl|rfl|rfl|rfl<;>first|exact HF.sc _|exact zg _|exact ZV _
theorem qn1(ts)(sc:Sc)(bs cs inst)(S:Nat)(hS:sc.sN=S)(ax:S<=4)(hr:Qq cs)(hl:cs.length<=14)(aq:S*(subL [] cs).length<=1000000)
  (ay:S*2 ^ cs.length<=16384)
  (T:qh qb 55 [eTS ts,eSc sc] (aB true)) (P:qh qb 63 [eTS ts,eSc sc,lBd bs] (aB true)) (h3:qh qb 64 [eTS ts,eSc sc,lBd bs] (.lst false cs))
  (hi:∀ k,k<S->∀ c,c∈subL [] cs->qh qb 66 [eTS ts,eSc sc,lBd bs,aI (k:Nat),.lst false c] (eMd (inst k c))):qh qb 33 [eTS ts,eSc sc,lBd bs] (.tup [lMd (vH inst cs S),aI 0]):=by
 refine qSU call33 func33 rfl ?_;refine fR T (.zk (zm _) (.zk (zr _) .nil)) ?_;refine fR P (.zk (zm _) (.zk (zr _) (.zk (jn _) .nil))) ?_;refine tK h3 (.zk (zm _) (.zk (zr _) (.zk (jn _) .nil))) ?_;have ag:¬(14:Int)<cs.length:=zOm;have n0:¬(cs.length:Int)<0:=zOm;have o:min cs.length 64=cs.length:=zOm;have ar:(S:Int)*2 ^ cs.length<=16384:=by grind
 have au:(0:Int)<=(S:Int)*2 ^ cs.length:=by exact_mod_cast Nat.zero_le _
 have ah:qo.wrap ((S:Int)*2 ^ cs.length)=(S:Int)*2 ^ cs.length:=zWr;have ai:¬(16384:Int)<(S:Int)*2 ^ cs.length:=zOm;simp[go_sem,ag,hS,n0,o,ah,ai];refine tA (fun m U=>∃ k t p,m=S-k/\k<=S/\U.tm 3 = .ip (cTS ts)/\U.tm 4 = .ip [lI sc.sC,aI sc.sN]/\U.tm 5 = .ip [lBd bs]/\U.tm 8 = .lst false cs/\U.tm 9 = .ptr 0 0/\U.tm 39=aI S/\U.tm 40=aI (k:Nat)/\U.mu = .arr [t] :: p/\Own U.mu 4 t ((vH inst cs k).map cMd)/\qn t≠some 0) S ?_ ?_
 .refine ⟨0,.lst true [],[],zOm,zOm,zSi,zS1 hS,zSi,zSi,zSi,zSi,zSi,zSi,?_,by simp[qn]⟩
  simp[go_sem,vH];exact .inl rfl
 rintro m U ⟨k,t,p,rfl,hk,e3,e4,e5,e8,e9,a0,a1,hm,ho,aj⟩;by_cases a6:k<S
 .have az:=KO inst cs (k+1)
  have aw:=Nat.mul_le_mul_right (subL [] cs).length (show k+1<=S by omega);have a2:=qbD inst cs k;rw[hm]at ho;have ak:qn t≠some (p.length+1):=fun h=>by have:=Own.lt ho h;simp at this
  simp[go_sem,e8,a0,a1,hm,a6];refine fR (qnD cs hr) (.zk (HF.lst fun r a3 x hx=>(hr r a3).2.2 x hx) .nil) ?_;refine tN (qnC cs hr zOm) (fun j M=>∃ t l,M = .arr [t] :: l/\M[p.length+1]?=some (.arr [aI k])/\Own M 4 t ((vH inst cs k++((subL [] cs).map (inst k)).take j).map cMd)/\qn t≠some 0/\qn t≠some (p.length+1)) (fun _ _=>False) ?_ ?_ ?_ ?_ ?_ ?_
  .refine ⟨t,_,by simp only[qB,yP];rfl,zSi,?_,aj,ak⟩
   have:=Own.push ho [Cell.arr [aI k],.dead];simp_all[go_sem]
  .rintro j M ⟨t,l,rfl,T,P,h3,h4⟩
   exact⟨t,l++[.dead],rfl,by grind,Own.push P _,h3,h4⟩
  .grind
  .rintro j x M hj ⟨t,l,rfl,T,P,h3,h4⟩
   rw[zi,jK]at hj;obtain⟨c,hc,rfl⟩:=hj;have b0:j<(subL [] cs).length:=(qj.1 hc).1;have a7:c∈subL [] cs:=qZ hc;have b1:((subL [] cs).map (inst k)).take (j+1)=((subL [] cs).map (inst k)).take j++[inst k c]:=by
    rw[List.take_add_one];have:((subL [] cs).map (inst k))[j]?=some (inst k c):=by rw[zi,hc];rfl
    rw[this];rfl
   refine⟨rfl,?_⟩;have al:=(qj.1 T).1;have a8:=T;simp at a8;simp[go_sem];refine cL zKr ?_;simp[go_sem,e3,e4,e5,e9,a8];refine tK (hi k a6 c a7) (.zk (zm _) (.zk (zr _) (.zk (jn _) (.zs (.zk (HF.lst ?_) .nil))))) ?_
   .exact fun r a3 x hx=>(hr r (by rcases KN cs [] c a7 r a3 with h|h;exact absurd h zSp;exact h)).2.2 x hx
   simp[go_sem];refine qy.ownB (e:=43) (sz:=4) (bt:=64) (zv := .agg [.lst true [],aI 0,.lst true [],aI 0]) (xs:=vH inst cs k++((subL [] cs).map (inst k)).take j |>.map cMd) (ys:=[cMd (inst k c)]) zSi zSi zSi rfl rfl zOm zOm P (by simp[qD]) (YT _) (YT [inst k c]) ?_ ?_
   .grind
   intro I a9 a4 aa b2 b3;have an:=aa 0 zSp h3;have ab:=aa (p.length+1) al h4;rw[T]at ab;obtain⟨C,rfl⟩:∃ C,a9 = .arr [t] :: C:=by
    cases a9 with
    |nil=>simp at an
    |cons c r=>grind
   have R:qn I≠some 0:=fun h=>by grind
   have ad:qn I≠some (p.length+1):=fun h=>by grind
   have ae:=Own.set a4 (i:=0) (.arr [I]) R;have af:(vH inst cs k++((subL [] cs).map (inst k)).take j).map cMd++[cMd (inst k c)]=(vH inst cs k++((subL [] cs).map (inst k)).take (j+1)).map cMd:=by
    grind
   rw[af]at ae;simp[go_sem,e9,Own.one a4,Own.cells a4];exact tP ⟨I,C,rfl,zUs ab,zUs ae,R,ad⟩
  .rintro M ⟨t,l,rfl,T,P,h3,h4⟩
   have a5:((subL [] cs).map (inst k)).take ((subL [] cs).map fun c=>[AV.lst false c]).length=(subL [] cs).map (inst k):=by
    rw[zA,zQ zSp]
   rw[a5,<-a2]at P;simp[go_sem,a1];refine Keep.loop (S-(k+1)) zOm ⟨k+1,t,l,rfl,zOm,zS1 e3,zS1 e4,zS1 e5,zS1 e8,zS1 e9,zS1 a0,?_,zSi,zVs P,h3⟩;simp[go_sem];grind [zT]
  grind
 .have ao:k=S:=by omega
  subst ao;rw[hm]at ho;simp[go_sem,e9,a0,a1,hm];refine .tup _ _ rfl fun j x y hx hy=>?_
  match j with
  | 0=>grind [cG]
  | 1=>simp at hx hy;subst hx;subst hy;exact .zsc _
  |j+2=>simp at hx
end GH
namespace GU
open YF P1 E1 E3 EO EQ F4 GF GH GR GS
abbrev Ch:=Int×Int×Int
abbrev rC(c:Ch):List AV:=[aI c.1,aI c.2.1,aI c.2.2]
theorem uT(l:List Ch):zl 3 (l.map rC):=fun r g=>by
 obtain⟨n,_,rfl⟩:=qm.1 g;exact⟨rfl,rfl⟩
abbrev lCh(l:List Ch):AV := .lst false (l.map rC)
def chA(g:List Bool)(s:Nat)(i:List (Int×Int)):List Ch:=(i.filter fun p=>decide (s=0)||g.getD p.1.toNat true).map fun p=>((s:Int),p.1,p.2)
def chs(g:List Bool)(i:List (Int×Int))(k:Nat):List Ch:=(qt k).flatMap fun s=>chA g s i
theorem UT(g i k):chs g i (k+1)=chs g i k++chA g k i:=by
 rw[chs,List.range_succ,List.flatMap_append];simp[chs]
theorem KP(i s)(g:List (Int×Int))(j h):chA i s (g.take (j+1))=chA i s (g.take j)++(if (decide (s=0)||i.getD g[j].1.toNat true)=true then [((s:Int),g[j].1,g[j].2)] else []):=by
 rw[vJ h,chA,List.filter_append,zb];by_cases l:(decide (s=0)||i.getD g[j].1.toNat true)=true
 .rw [if_pos l,show [g[j]].filter (fun p=>decide (s=0)||i.getD p.1.toNat true)=[g[j]] from List.filter_cons_of_pos (p:=fun p:Int×Int=>decide (s=0)||i.getD p.1.toNat true) l];rfl
 .rw [if_neg l,show [g[j]].filter (fun p=>decide (s=0)||i.getD p.1.toNat true)=[] from List.filter_cons_of_neg (p:=fun p:Int×Int=>decide (s=0)||i.getD p.1.toNat true) l];rfl
theorem UU(i s g):(chA i s g).length<=g.length:=by
 rw[chA,zA];grind
theorem UV(i g):∀ k,(chs i g k).length<=k*g.length
 | 0=>by simp[chs]
 |k+1=>by
  rw[UT,q8,Nat.succ_mul];have:=UV i g k;have:=UU i k g;omega
theorem KQ:∀ g k,∀ p,p∈qN g k->(k:Int)<=p.1/\p.1<(k+g.length:Nat)
 | [],k,p,h=>by simp[qN]at h
 |b :: g,k,p,h=>by
  simp only[qN,qJ]at h;rcases h with h|h
  .simp only[jh,qm]at h
   obtain⟨t,_,rfl⟩:=h;simp;omega
  .have:=KQ g (k+1) p h
   simp only[zz];omega
theorem qn2(ts)(sc:Sc)(p)(N:Nat)(hS:sc.sN=N)(hN:N<=4)(hl:p.length<=1000)(hb:∀ x,x∈p->Zr x)(ag:p.length<=ts.sA.length)(a9:(qN p 0).length<=100000) :
  qh qb 64 [eTS ts,eSc sc,lBd p] (lCh (chs (vsT ts) (qN p 0) N)):=by
 have R:=freeU p hl hb;have ah:=US p 0 hb;have a1:=KQ p 0;generalize hF:qN p 0=F at *
 refine qSV call64 func64 rfl ?_;simp[go_sem,hS];refine aK N (fun k U=>U.tm 2=lBd p/\U.tm 3 = .ip (cTS ts)/\U.tm 12=aI N/\U.tm 13=aI k/\Own U.mu 3 (U.tm 7) ((chs (vsT ts) F k).map rC)) ?_ ?_
 .exact ⟨zSi,zSi,zSi,zSi,.inl (by simp[go_sem,chs])⟩
 rintro k U hk ⟨e2,e3,l,o,ho⟩;by_cases a2:k<N
 .have w1:=zWk k
  have ai:=UV (vsT ts) F k;have ae:k*F.length<=4*100000:=Nat.mul_le_mul zOm a9;simp[go_sem,e2,l,o,a2];refine fR R (.zk (jn _) .nil) ?_;refine aK F.length (fun j st2=>st2.tm 2=lBd p/\st2.tm 3 = .ip (cTS ts)/\st2.tm 12=aI N/\st2.tm 13=aI k/\st2.tm 8=aI k/\st2.tm 17=lP F/\st2.tm 18=aI F.length/\st2.tm 19=aI j/\Own st2.mu 3 (st2.tm 7) ((chs (vsT ts) F k++chA (vsT ts) k (F.take j)).map rC)) ?_ ?_
  .simp_all [go_sem,chA]
  clear e2 e3 l o;rintro j st2 hj ⟨e2,e3,l,o,e8,a3,T,a4,t⟩;by_cases C:j<F.length
  .have w2:=zWk j
   have hm:=a1 _ (qp C);obtain⟨f,hf⟩:=Int.eq_ofNat_of_zero_le (show 0<=F[j].1 by omega);have a5:f<ts.sA.length:=zOm;have aa:0<=F[j].1:=zOm;have ab:F[j].1.toNat=f:=zOm;have a6:F[j].1<ts.sA.length:=zOm;have ad:(vsT ts).getD F[j].1.toNat true=ts.sA[f].var:=by grind
   have aj:=UU (vsT ts) k (F.take j);have ak:=List.length_take_le j F;have hs:=KP (vsT ts) k F j C;rw[ad]at hs;have af:∀(K:AV->Mu->Prop)(c:Cell),(∀ a7 a8,Own a8 3 a7 ((chs (vsT ts) F k++(chA (vsT ts) k (F.take j)++[((k:Int),F[j].1,F[j].2)])).map rC)->K a7 a8)->qy qb (st2.mu++[c]) #[127,127] (st2.tm 7) (.lst true [[aI k,aI F[j].1,aI F[j].2]]) K:=fun K c hK=>by
    refine qy.ownB (e:=192) (sz:=3) (bt:=24) (zv := .agg [aI 0,aI 0,aI 0]) (xs:=(chs (vsT ts) F k++chA (vsT ts) k (F.take j)).map rC) (ys:=[rC ((k:Int),F[j].1,F[j].2)]) zSi zSi zSi rfl rfl zOm zOm (Own.push t _) (by simp[qD]) (uT _) (uT [_]) zSo ?_
    grind
   by_cases P:(decide (k=0)||ts.sA[f].var)=true
   .rw [if_pos P]at hs
    by_cases I:k=0
    .simp_all [go_sem,aA]
    .have hv:ts.sA[f].var=true:=by simpa[I] using P
     simp_all[go_sem,aA]
   .rw [if_neg P,zJ]at hs
    have I:¬k=0:=fun h=>P (zP1 h)
    have hv:ts.sA[f].var=false:=by simpa[I] using P
    simp[go_sem,e3,e8,a3,T,a4,C,I,aa,ab,a6,a5,hv,w2]
    try refine⟨C,aA ?_⟩
    try refine aA ?_
    refine⟨zS1 e2,zS1 e3,zS1 l,zS1 o,zS1 e8,zS1 a3,zS1 T,zSi,?_⟩;rw[hs];simpa[go_sem] using Own.push t _
  .have a0:j=F.length:=by omega
   subst a0;rw[qO]at t;simp[go_sem,o,T,a4,w1]
   try refine⟨a2,aA ?_⟩
   try refine aA ?_
   refine⟨zS1 e2,zS1 e3,zS1 l,zSi,?_⟩;rw[UT];simpa[go_sem] using t
 .have a0:k=N:=by omega
  subst a0;simp[go_sem,l,o];exact Own.rd ho (uT _).ok fun r hr c P=>by
   obtain⟨n,_,rfl⟩:=qm.1 hr;simp at P;rcases P with rfl|rfl|rfl<;>exact HF.sc _
def selT(g:List Ch)(s f:Nat):List Int:=(g.filter fun c:Ch=>decide (c.1=(s:Int))&&decide (c.2.1=(f:Int))).map fun c=>c.2.2
def vy(g:List Ch)(s f:Nat)(b:Bd):Rl:=unR b.lo ⟨b.lo.ar,selT g s f⟩
def ve(i:List Bool)(j:List Bd)(g:List Ch)(s:Nat):List Rl:=j.mapIdx fun f b=>if s≠0/\i.getD f true=false then vy g 0 f b else vy g s f b
theorem Z1(i g j s):(ve i g j s).length=g.length:=by simp[ve]
theorem YY(j g i s f h l):(ve j g i s)[f]=if s≠0/\j.getD f true=false then vy i 0 f g[f] else vy i s f g[f]:=by simp[ve]
theorem qn3(g:List Ch)(s f i h):selT (g.take (i+1)) s f=selT (g.take i) s f++(if g[i].1=s/\g[i].2.1=f then [g[i].2.2] else []):=by
 rw[vJ h,selT,List.filter_append,zb];by_cases j:g[i].1=s/\g[i].2.1=f
 .rw [if_pos j,show [g[i]].filter (fun c:Ch=>decide (c.1=(s:Int))&&decide (c.2.1=(f:Int)))=[g[i]] from List.filter_cons_of_pos (p:=fun c:Ch=>decide (c.1=(s:Int))&&decide (c.2.1=(f:Int))) (zUs j)];rfl
 .rw [if_neg j,show [g[i]].filter (fun c:Ch=>decide (c.1=(s:Int))&&decide (c.2.1=(f:Int)))=[] from List.filter_cons_of_neg (p:=fun c:Ch=>decide (c.1=(s:Int))&&decide (c.2.1=(f:Int))) (zUs j)];rfl
theorem qbE(g s f):(selT g s f).length<=g.length:=by rw[selT,zA];exact List.length_filter_le ..
abbrev zR:List AV:=[aI 0,.lst true []]
def ji(L:List Rl)(n j:Nat):List (List AV):=(L.take j).map cRel++qY (n-j) zR
theorem qbF(L n j)(g:L.length=n)(h:j<=n):(ji L n j).length=n:=by grind [ji]
theorem qbG(L n j):yJ 2 (ji L n j):=fun r g=>by
 simp only[ji,qJ,qm,List.mem_replicate]at g;rcases g with ⟨q,_,rfl⟩|⟨_,rfl⟩<;>rfl
theorem qn4(L n j)(i:L.length=n)(h:j<n):(ji L n j).set j (cRel (L[j]' zOm))=ji L n (j+1):=by
 unfold ji;have g:((L.take j).map cRel).length=j:=zSo;rw[List.set_append_right _ _ zOm,g,Nat.sub_self,show n-j=n-(j+1)+1 by omega,List.replicate_succ,List.set_cons_zero,vJ (show j<L.length by omega),zb,zt];rfl
theorem qn5(L n)(g:L.length=n):ji L n n=L.map cRel:=by
 unfold ji;rw[<-g,qO,Nat.sub_self];simp
structure qbH (b:Bd):Prop where
 l:b.lo.ts.length<=50000
def jA(sc:Sc)(g:List Bool)(i:List Bd)(j:List Ch)(N:Nat)(loop:Int):Md:=⟨sc,(qt N).map (ve g i j),loop⟩
theorem qn6(ts)(sc:Sc)(o p loop)(N:Nat)(hS:sc.sN=N)(hN:N<=4)(hl:o.length<=1000)(hb:∀ x,x∈o->qbH x)(dc:o.length<=ts.sA.length)(dd:p.length<=50000) :
  qh qb 66 [eTS ts,eSc sc,lBd o,aI loop,lCh p] (eMd (jA sc (vsT ts) o p N loop)):=by
 have bj:eMd (jA sc (vsT ts) o p N loop) = .agg [lI sc.sC,aI N,lSt ((qt N).map (ve (vsT ts) o p)),aI loop]:=by rw[<-hS];rfl
 rw[bj];have a0:=Z1 (vsT ts) o p;have bk:=YY (vsT ts) o p;clear bj;generalize hA:ve (vsT ts) o p=A at a0 bk⊢;refine qSV call66 func66 rfl ?_;simp[go_sem,hS];refine aK N (fun k U=>U.tm 2=lBd o/\U.tm 4=lCh p/\U.tm 5 = .ip (cTS ts)/\U.tm 10 = .ptr 0 0/\U.tm 11 = .ptr 1 0/\U.tm 23=aI N/\U.tm 24=aI k /\
  ∃ s,U.mu[0]?=some (.arr [.lst true [],aI 0,.lst true [],aI 0])/\U.mu[1]?=some (.arr [lI sc.sC,aI N,s,aI loop])/\Own U.mu 1 s (((qt k).map A).map fun r=>[lRel r])/\∀ b,qn s=some b->2<=b) ?_ ?_
 .exact ⟨zSi,zSi,zSi,zSi,zSi,zSi,zSi,.lst true [],zSi,zSi,.inl zSp,by simp[qn]⟩
 rintro k U hk ⟨e2,e4,e5,ck,cl,bm,bn,s,h0,h1,ho,bb⟩;have cm:=(qj.1 h0).1;have de:=(qj.1 h1).1;by_cases bo:k<N
 .have w1:=zWk k
  have cn:(o.length:Int)<=4294967296:=zOm;simp[go_sem,e2,bm,bn,bo,cn];have bq:∀ b,qn s=some b->b<U.mu.length:=fun b h=>Own.lt ho h
  have df:2<=U.mu.length:=zOm;have dh:(qY o.length [AV.sc (Value.int qo 0),AV.lst true []]).flatten=(ji (A k) o.length 0).flatten:=by simp[ji]
  generalize hR:U.mu.length=R at *
  refine aK o.length (fun j st2=>st2.tm 2=lBd o/\st2.tm 4=lCh p/\st2.tm 5 = .ip (cTS ts)/\st2.tm 10 = .ptr 0 0/\st2.tm 11 = .ptr 1 0/\st2.tm 23=aI N/\st2.tm 24=aI k/\st2.tm 12=aI k/\st2.tm 13 = .sl R 2 0 o.length/\st2.tm 30=lBd o/\st2.tm 31=aI o.length/\st2.tm 32=aI j /\
   st2.mu[R]?=some (.arr (ji (A k) o.length j).flatten)/\∀ i,i<R->st2.mu[i]?=U.mu[i]?) ?_ ?_
  .simp_all [go_sem]
  rintro j st2 hj ⟨f2,f4,f5,f10,f11,f23,f24,f12,f13,f30,f31,f32,an,P⟩;have cp:R<st2.mu.length:=(qj.1 an).1;have b7:st2.mu[1]?=some (.arr [lI sc.sC,aI N,s,aI loop]):=by grind
  by_cases C:j<o.length
  .have w2:=zWk j
   have bc:j<ts.sA.length:=zOm;have cq:(vsT ts).getD j true=ts.sA[j].var:=by rw[zE,zi,qz bc];rfl
   have ao:(ji (A k) o.length j).flatten.length=o.length*2:=by rw[yI (qbG _ _ _),qbF _ _ _ (a0 k) zOm]
   have a3:∀ s,j<(A s).length:=fun s=>by grind
   have a9:(ji (A k) o.length j).flatten.take (j*2)++aI ((A k)[j]'(a3 k)).ar :: lI ((A k)[j]'(a3 k)).ts :: (ji (A k) o.length j).flatten.drop (j*2+2)=(ji (A k) o.length (j+1)).flatten:=by
    rw[<-qn4 (A k) o.length j (a0 k) C,Js _ j _ (qbG _ _ _) rfl (by grind [qbF]),y8 _ _ _ (by rw[ao];simp only[cRel,zz,List.length_nil];omega)];simp
   have b8:∀ c,(st2.mu++[c])[R]?=some (.arr (ji (A k) o.length j).flatten):=fun c=>by grind
   simp[go_sem,f12,f30,f31,f32,C];by_cases be:k≠0/\ts.sA[j].var=false
   .obtain ⟨bg,hv⟩:=be
    have a2:0<k:=zOm;have aa:(A k)[j]'(a3 k)=(A 0)[j]'(a3 0):=by
     grind
    rw[aa]at a9;have bh:∀ c,(st2.mu++[c])[1]?=some (.arr [lI sc.sC,aI N,s,aI loop]):=fun c=>by grind
    have da:=a3 0;have cr:(((qt k).map A).map fun r=>[lRel r]).flatten[0]?=some (lRel (A 0)):=by
     obtain⟨k',rfl⟩:∃ k',k=k'+1:=⟨k-1,zOm⟩;rw[List.range_succ_eq_map];simp
    have cs:(((qt k).map A).map fun r=>[lRel r]).length=k:=zSp;generalize ab:(((qt k).map A).map fun r=>[lRel r])=rows at *
    have di:rows[0]?=some [lRel (A 0)]:=by
     rw[<-ab];obtain⟨k',rfl⟩:∃ k',k=k'+1:=⟨k-1,zOm⟩;simp
    have br:(rows.map List.length).sum=k:=by
     have:=yI (sz:=1) (xs:=rows) (by rw[<-ab];intro r hr;obtain⟨n,_,rfl⟩:=qm.1 hr;rfl);rw[List.length_flatten]at this;omega
    have bu:rows.flatten.take 1=[lRel (A 0)]:=by
     cases dj:rows.flatten with
     |nil=>grind
     |cons x l=>grind
    simp[go_sem,f5,f11,f13,a2,bc,hv,bh];rcases ho with rfl|⟨c,rfl,bv⟩
    .refine tT (.ip [lRel (A 0)]) (by grind) ?_
     simp[go_sem,C,b8,a0,ao];refine tT ((st2.mu++[Cell.arr (cBd o[j])]).set R (.arr (ji (A k) o.length (j+1)).flatten)) (by rw[if_pos zOm,a9]) ?_;simp[go_sem,f32,C,w2]
     try refine⟨C,aA ?_⟩
     try refine aA ?_
     refine⟨zS1 f2,zS1 f4,zS1 f5,zS1 f10,zS1 f11,zS1 f23,zS1 f24,zS1 f12,zS1 f13,by simp[go_sem,f30],by simp[go_sem,f31],zSi,?_,fun i hi=>?_⟩
     .simp only[qB];rw[qL zSo]
     grind [qB,yA,qM]
    .have dk:=(qj.1 bv).1
     have bw:∀ x,(st2.mu++[x])[c]?=some (.arr rows.flatten):=fun x=>by rw[zGa,P c zOm];exact bv
     simp[go_sem,a2,bw,cs];refine tT (lRel (A 0)) (by rw[br,if_pos zOm,bu];rfl) ?_;simp[go_sem,C,b8,a0,ao];refine tT ((st2.mu++[Cell.arr (cBd o[j])]).set R (.arr (ji (A k) o.length (j+1)).flatten)) (by rw[if_pos zOm,a9]) ?_;simp[go_sem,f32,C,w2]
     try refine⟨C,aA ?_⟩
     try refine aA ?_
     refine⟨zS1 f2,zS1 f4,zS1 f5,zS1 f10,zS1 f11,zS1 f23,zS1 f24,zS1 f12,zS1 f13,by simp[go_sem,f30],by simp[go_sem,f31],zSi,?_,fun i hi=>?_⟩
     .simp only[qB];rw[qL zSo]
     .simp only[qB];rw[zGl,zGa];exact P i hi
   .have aa:(A k)[j]'(a3 k)=vy p k j o[j]:=by
     rw[bk k j C,cq];by_cases bg:k=0
     .rw [if_neg (fun h=>h.1 bg)]
     .rw [if_neg (fun h=>be h)]
    rw[aa]at a9;have ct:0<k->ts.sA[j].var=true:=fun bg=>by
     cases hv:ts.sA[j].var with
     |true=>rfl
     |false=>exact absurd ⟨zOm,hv⟩ be
    generalize hX:st2.mu.length=X at *
    by_cases a2:0<k
    all_goals simp[go_sem,f4,f5,a2,bc,ct,hX]
    all_goals
     refine aK p.length (fun i st3=>st3.tm 2=lBd o/\st3.tm 4=lCh p/\st3.tm 5 = .ip (cTS ts)/\st3.tm 10 = .ptr 0 0/\st3.tm 11 = .ptr 1 0/\st3.tm 23=aI N/\st3.tm 24=aI k/\st3.tm 12=aI k/\st3.tm 13 = .sl R 2 0 o.length/\st3.tm 30=lBd o/\st3.tm 31=aI o.length/\st3.tm 32=aI j /\
      st3.tm 14=aI j/\st3.tm 15 = .ptr X 0/\st3.tm 16 = .ptr (X+1) 0/\st3.tm 62=lCh p/\st3.tm 63=aI p.length/\st3.tm 64=aI i/\st3.mu[X]?=some (.arr (cBd o[j]))/\(∀ i,i<X->st3.mu[i]?=st2.mu[i]?) /\
      ∃ t,st3.mu[X+1]?=some (.arr [aI o[j].lo.ar,t])/\Own st3.mu 1 t ((selT (p.take i) k j).map rI)/\∀ b,qn t=some b->X+1<b) ?_ ?_
     .refine ⟨zS1 f2,zS1 f4,zS1 f5,zS1 f10,zS1 f11,zS1 f23,zS1 f24,zS1 f12,zS1 f13,by simp[go_sem,f30],by simp[go_sem,f31],by simp[go_sem,f32],zSi,zSi,zSi,zSi,zSi,zSi,zS1 hX,fun i hi=>by simp[go_sem];rw[zGa],.lst true [],zS1 hX,.inl (by simp[selT]),by simp[qn]⟩
     rintro i st3 hi ⟨g2,g4,g5,aq,au,aw,ax,ad,ae,ay,az,b0,a4,b1,a5,b2,af,ag,ca,I,t,b3,ah,a6⟩;by_cases T:i<p.length
     .have w3:=zWk i
      have a7:=qn3 p k j i T;have cb:=qbE (p.take i) k j;have db:=List.length_take_le i p;have cc:=(qj.1 b3).1;have bi:∀ c,(st3.mu++[c])[X]?=some (.arr (cBd o[j])):=fun c=>by rw[zGa];exact ca
      have b4:∀ c,(st3.mu++[c])[X+1]?=some (.arr [aI o[j].lo.ar,t]):=fun c=>by rw[qM cc];exact b3
      have cd:qn t≠some (X+1):=fun h=>zW1 (a6 _ h)
      simp[go_sem,ad,b2,af,ag,T];by_cases ai:p[i].1=(k:Int)
      .by_cases b5:p[i].2.1=(j:Int)
       .rw [if_pos ⟨ai,b5⟩]at a7
        simp[go_sem,a4,a5,b4,ai,b5];refine qy.ownB (e:=3) (sz:=1) (bt:=8) (zv:=aI 0) (xs:=(selT (p.take i) k j).map rI) (ys:=[rI p[i].2.2]) zSi zSi zSi rfl rfl zOm zOm (Own.push ah _) (by simp[qD]) (yq _) (yq [_]) zSo ?_;intro aj ak a1 a8 b6 cu;have q1:ak[X+1]?=some (.arr [aI o[j].lo.ar,t]):=by rw[a8 _ zSo cd];exact b4 _
        have q0:ak[X]?=some (.arr (cBd o[j])):=by rw[a8 _ zSo (fun h=>zW1 (a6 _ h))];exact bi _
        have ql:=(qj.1 q1).1;have cf:∀ b,qn aj=some b->X+1<b:=fun b h=>by have:=b6 b h;simp at this;omega
        simp[go_sem,a5,ag,T,q1,w3,Own.one a1,Own.cells a1]
        try refine⟨T,aA ?_⟩
        try refine aA ?_
        refine⟨zS1 g2,zS1 g4,zS1 g5,zS1 aq,zS1 au,zS1 aw,zS1 ax,zS1 ad,zS1 ae,zS1 ay,zS1 az,zS1 b0,zS1 a4,zS1 b1,zS1 a5,zS1 b2,zS1 af,zSi,?_,fun i hi=>?_,aj,?_,?_,cf⟩
        .simp only[qB];rw[zGl];exact q0
        .simp only[qB];rw[zGl,a8 i zSo (fun h=>zW1 (a6 _ h)),zGa];exact I i hi
        .simp only[qB];exact qL ql
        .simp only[qB];rw[a7,zb];exact Own.set a1 _ (fun h=>zW1 (cf _ h))
       .rw [if_neg (fun h=>b5 h.2),zJ]at a7
        simp[go_sem,a4,ag,T,ai,b5,w3]
        try refine⟨T,aA ?_⟩
        try refine aA ?_
        refine⟨zS1 g2,zS1 g4,zS1 g5,zS1 aq,zS1 au,zS1 aw,zS1 ax,zS1 ad,zS1 ae,zS1 ay,zS1 az,zS1 b0,zS1 a4,zS1 b1,zS1 a5,zS1 b2,zS1 af,zSi,?_,fun i hi=>?_,t,?_,?_,a6⟩
        .simp only[qB];exact bi _
        .simp only[qB];rw[zGa];exact I i hi
        .simp only[qB];exact b4 _
        .simp only[qB];rw[a7];exact Own.push ah _
      .rw [if_neg (fun h=>ai h.1),zJ]at a7
       simp[go_sem,ag,T,ai,w3]
       try refine⟨T,aA ?_⟩
       try refine aA ?_
       refine⟨zS1 g2,zS1 g4,zS1 g5,zS1 aq,zS1 au,zS1 aw,zS1 ax,zS1 ad,zS1 ae,zS1 ay,zS1 az,zS1 b0,zS1 a4,zS1 b1,zS1 a5,zS1 b2,zS1 af,zSi,?_,fun i hi=>?_,t,?_,?_,a6⟩
       .simp only[qB];exact bi _
       .simp only[qB];rw[zGa];exact I i hi
       .simp only[qB];exact b4 _
       .simp only[qB];rw[a7];exact Own.push ah _
     .have al:i=p.length:=by omega
      subst al;rw[qO]at ah;simp[go_sem,ae,a4,b1,a5,af,ag,ca,b3];have cb:=qbE p k j;have cv:=vt o[j].lo ⟨o[j].lo.ar,selT p k j⟩ (zW1 ((hb _ (qp C)).l)) (by show (selT p k j).length<=_;omega);have b9:∀ i,i<X->(cutM (fun i=>!decide (X<=i)) st3.mu 0)[i]?=st2.mu[i]?:=fun i hi=>by
       rw[jF,I i hi];simp only[yd,decide_eq_false (show ¬X<=i by omega),Bool.not_false,if_true];cases st2.mu[i]?<;>rfl
      refine fQ (qC.freeze (args1:=[eRel o[j].lo,eRel ⟨o[j].lo.ar,selT p k j⟩]) (fun i=>decide (X<=i)) ⟨.inl rfl,.inr ?_,trivial⟩ (qh.toSound _ cv (.zk (qP _) (.zk (qP _) .nil)))) ?_ ?_
      .exact Rd.aggs ⟨.hf _ (HF.sc _),Own.rd (YR ah fun b h=>zW1 (a6 b h)) (yq _).ok fun r hr c hc=>by
        obtain⟨n,_,rfl⟩:=qm.1 hr;simp at hc;subst hc;exact HF.sc _,trivial⟩
      .rintro r m ⟨h,rfl⟩
       cases h;have cg:(cutM (fun i=>!decide (X<=i)) st3.mu 0)[R]?=some (.arr (ji (A k) o.length j).flatten):=by rw[b9 R cp];exact an
       simp[go_sem,cg,C,ao];have dm:(cutM (fun i=>!decide (X<=i)) st3.mu 0).length=st3.mu.length:=jO _ _ _;have cc:=(qj.1 b3).1;refine tT ((cutM (fun i=>!decide (X<=i)) st3.mu 0).set R (.arr (ji (A k) o.length (j+1)).flatten)) (by rw[if_pos zOm];exact congrArg (fun l=>some ((cutM (fun i=>!decide (X<=i)) st3.mu 0).set R (Cell.arr l))) a9) ?_;simp[go_sem,b0,C,w2]
       try refine⟨C,aA ?_⟩
       try refine aA ?_
       refine⟨zS1 g2,zS1 g4,zS1 g5,zS1 aq,zS1 au,zS1 aw,zS1 ax,zS1 ad,zS1 ae,zS1 ay,zS1 az,zSi,?_,fun i hi=>?_⟩
       .simp only[qB];rw[qL zOm]
       .simp only[qB];rw[zGl,b9 i zOm];exact P i hi
      .rintro r m ⟨h,_⟩
       cases h
  .have al:j=o.length:=by omega
   subst al;rw[qn5 _ _ (a0 k)]at an;have cx:Own st2.mu 2 (.sl R 2 0 o.length) ((A k).map cRel) := .inr ⟨R,zP1 a0,an⟩;simp[go_sem,f11,f13,f31,f32,b7];refine aZ (e:=93) (sz:=1) (bt:=24) (zv := .lst true []) (xs:=((qt k).map A).map fun r=>[lRel r]) [lRel (A k)] R zSi zSi zSi rfl rfl zOm zOm ?_ bq ?_ ?_ ?_ zSo ?_
   .rcases ho with h|⟨b,h,hc⟩
    .exact .inl h
    .exact .inr ⟨b,h,by rw[P b (bq b (by rw[h];rfl))];exact hc⟩
   .exact ⟨Own.rd (YR cx fun b h=>by cases h;exact qr _) (vF _).ok fun r hr c hc=>by
     obtain⟨n,_,rfl⟩:=qm.1 hr;exact ZM n c hc,trivial⟩
   .intro r hr
    obtain⟨n,_,rfl⟩:=qm.1 hr;exact⟨rfl,rfl⟩
   .intro r hr
    simp at hr;subst hr;exact⟨rfl,rfl⟩
   intro aj ak a1 a8 b6 cu dn;have g1:ak[1]?=some (.arr [lI sc.sC,aI N,s,aI loop]):=by rw[a8 1 zOm zOm (fun h=>zW1 (bb 1 h))];exact b7
   have g0:ak[0]?=some (.arr [.lst true [],aI 0,.lst true [],aI 0]):=by rw[a8 0 zOm zOm (fun h=>zW1 (bb 0 h)),P 0 zOm];exact h0
   have l1:=(qj.1 g1).1;simp[go_sem,f11,f24,g1,w1,Own.one a1,Own.cells a1]
   try refine⟨bo,aA ?_⟩
   try refine aA ?_
   refine⟨zS1 f2,zS1 f4,zS1 f5,zS1 f10,zS1 f11,zS1 f23,zSi,aj,zS1 g0,zS1 l1,?_,fun b h=>zW1 (b6 b h)⟩;rw[List.range_succ,zb,zb];simpa[go_sem] using Own.set a1 (.arr [lI sc.sC,aI N,aj,aI loop]) (fun h=>zW1 (b6 1 h))
 .have al:k=N:=by omega
  subst al;have cy:s.one=true:=Own.one ho;have dp:s.cells=[s]:=Own.cells ho;have cj:∀ c,(U.mu.set 0 c)[0]?=some c:=fun c=>qL cm
  simp[go_sem,ck,cl,bm,bn,h0,h1,cy,cj];have cz:=Own.set ho (i:=0) (.arr [lI sc.sC,aI k,s,aI loop]) (fun h=>zW1 (bb 0 h));refine Rd.aggs ⟨.hf _ (zg _),.hf _ (HF.sc _),?_,.hf _ (HF.sc _),trivial⟩;exact Own.rd cz (fun r hr=>by
   obtain⟨n,_,rfl⟩:=qm.1 hr;rfl) fun r hr c hc=>by
   obtain⟨n,_,rfl⟩:=qm.1 hr;simp at hc;subst hc;exact Qe n
end GU
namespace GY
open YF P1 E3 GF GG GH GS GU
section
variable {I:Type}
def subs:List I->List I->List (List I)
 |c,[]=>[c]
 |c,a :: r=>subs c r++subs (c++[a]) r
theorem UW:∀(r c:List I),(subs c r).length=2 ^ r.length
 | [],c=>rfl
 |a :: r,c=>by rw[subs,q8,UW r,UW r,zz,Nat.pow_succ];omega
theorem Ve:∀(r c x:List I),x∈subs c r↔∃ y,y.Sublist r/\x=c++y
 | [],c,x=>by simp[subs]
 |a :: r,c,x=>by
  rw[subs,qJ,Ve r,Ve r];constructor
  .rintro (⟨y,h,rfl⟩|⟨y,h,rfl⟩)
   .grind
   simp_all
  .rintro ⟨y,h,rfl⟩
   cases h with
   |cons _ h=>grind
   |cons_cons _ h=>grind
theorem Y0:∀ r c,subL (c.map rC) (r.map rC)=(subs c r).map (List.map rC)
 | [],c=>rfl
 |a :: r,c=>by
  rw[zS,subL,subs,zb,Y0 r c,show c.map rC++[rC a]=(c++[a]).map rC by simp,Y0 r]
def deI:AV->Int
 | .sc (.int _ n)=>n
 |_=>0
def deC:List AV->Ch
 | [a,b,c]=>(deI a,deI b,deI c)
 |_=>(0,0,0)
theorem qbI(c:List Ch):(c.map rC).map deC=c:=by
 rw[List.map_map];exact(List.map_congr_left fun x _=>rfl).trans (List.map_id c)
def wD(sc:Sc)(g:List Bool)(i:List Bd)(j:List Ch)(N:Nat):List Md:=(qt N).flatMap fun k:Nat=>(subs [] j).map fun c=>jA sc g i c N (k:Int)
theorem qbJ(sc g i j N):vH (fun k c=>jA sc g i (c.map deC) N (k:Int)) (j.map rC) N=wD sc g i j N:=by
 unfold vH wD;congr 1;funext s;rw[show ([]:List (List AV))=([]:List Ch).map rC from rfl,Y0,List.map_map];exact List.map_congr_left fun c _=>by simp only[Function.comp_apply,qbI]
theorem qn7(sc i j g N):(wD sc i j g N).length=N*2 ^ g.length:=by
 rw[<-qbJ,KO,show ([]:List (List AV))=([]:List Ch).map rC from rfl,Y0,zA,UW]
theorem Vf{sc j l o N m}:m∈wD sc j l o N↔∃(k:Nat) (c:List Ch),k<N/\c.Sublist o/\m=jA sc j l c N k:=by
 simp only[wD,wS,z7,qm];constructor
 .rintro ⟨k,g,c,i,rfl⟩
  obtain⟨y,p,rfl⟩:=(Ve _ _ _).1 i;exact⟨k,_,g,p,rfl⟩
 .rintro ⟨k,c,g,i,rfl⟩
  exact⟨k,g,c,(Ve _ _ _).2 ⟨c,i,rfl⟩,rfl⟩
theorem qn8(l:List Ch):Qq (l.map rC):=fun r i=>by
 obtain⟨n,_,rfl⟩:=qm.1 i;exact⟨rfl,rfl,fun c g=>by simp at g;rcases g with rfl|rfl|rfl<;>exact HF.sc _⟩
theorem qn9(ts)(sc:Sc)(g)(N:Nat)(I:sc.sN=N)(J:N<=4)(T:g.length<=1000)(U:∀ x,x∈g->Zr x)(hi:∀ x,x∈g->qbH x)(j:g.length<=ts.sA.length)(l:(qN g 0).length<=100000)
  (o:(chs (vsT ts) (qN g 0) N).length<=14) (p:N*2 ^ (chs (vsT ts) (qN g 0) N).length<=16384)
  (h1:qh qb 55 [eTS ts,eSc sc] (aB true)) (h2:qh qb 63 [eTS ts,eSc sc,lBd g] (aB true)) :
  qh qb 33 [eTS ts,eSc sc,lBd g] (.tup [lMd (wD sc (vsT ts) g (chs (vsT ts) (qN g 0) N) N),aI 0]):=by
 rw[<-qbJ];generalize r:chs (vsT ts) (qN g 0) N=i at *
 have P:=qn2 ts sc g N I J T U j l;rw[r]at P;have t:(subL [] (i.map rC)).length=2 ^ i.length:=by
  rw[show ([]:List (List AV))=([]:List Ch).map rC from rfl,Y0,zA,UW]
 refine qn1 ts sc g (i.map rC) _ N I J (qn8 i) (zUs o) (by rw[t];omega) (zUs p) h1 h2 P fun k hk c R=>?_
 rw[show ([]:List (List AV))=([]:List Ch).map rC from rfl,Y0]at R;obtain⟨c',C,rfl⟩:=qm.1 R;obtain⟨y,hy,rfl⟩:=(Ve _ _ _).1 C;rw[qbI]
 grind [qn6]
end
end GY
namespace GN
open E3 E4 F1 GD
theorem qoA(xs ys C p)(hf:YI qb C eRel (fun x y=>x∈xs/\y∈ys) p)(hl:xs.length<=1000000000) :
  qh qb 80 [lRel xs,lRel ys,C] (aB (yZ p xs ys)):=by
 refine qSU call80 func80 rfl ?_;by_cases g:xs.length=ys.length
 rotate_left
 .simp [go_sem,g,X5 p xs ys g]
  exact .zsc _
 simp[go_sem,g];refine qk.up xs.length (fun k U=>U.tm 1=lRel ys/\U.tm 2=C/\U.tm 15=lRel xs/\U.tm 16=aI xs.length/\U.tm 17=aI k/\yZ p (xs.drop k) (ys.drop k)=yZ p xs ys) ?_ ?_
 .simp [go_sem,g]
 rintro k U hk ⟨J,P,t,l,o,r⟩;by_cases j:k<xs.length
 .have i:k<ys.length:=by omega
  rw[mF p xs ys k j i]at r;simp[go_sem,J,P,t,l,o,j,i];refine YI.call (enc:=eRel) hf ⟨qp j,qp i⟩ ?_;cases R:p xs[k] ys[k] with
  |true =>
   rw[R,Bool.true_and]at r;simp[go_sem,J,P,t,l,o,j];exact⟨zWr,r⟩
  |false =>
   rw[R,Bool.false_and]at r;simp[go_sem];rw[<-r];exact .zsc _
 .have I:k=xs.length:=by omega
  subst I;rw[zW,g,zW]at r;simp[go_sem,l,o];rw[<-r];exact .zsc _
theorem KR{I}[DecidableEq I]:∀(xs ys:List I),yZ (fun x y=>decide (x=y)) xs ys=decide (xs=ys)
 | [],[]=>rfl
 | [],_ :: _=>rfl
 |_ :: _,[]=>rfl
 |x :: xs,y :: ys=>by
  rw[yZ,KR xs ys,jM];simp
theorem XY(xs ys)(i:xs.length<=1000000000)(j:∀ r,r∈xs->r.ts.length<=1000000000):qh qb 39 [lRel xs,lRel ys] (aB (decide (xs=ys))):=by
 refine qSU call39 func39 rfl ?_;refine tK (qoA xs ys _ (fun x y=>decide (x=y)) ⟨YJ _,_,_,rfl,fun x y g=>⟨[eRel x,eRel y],by simpa using WKs.zk (qP x) (.zk (qP y) .nil),XU x y (zW1 (j x g.1))⟩⟩ i) (.zk (Qe _) (.zk (Qe _) (.zk (YJ _) .nil))) ?_;rw[KR];simp[go_sem];exact .zsc _
structure smMd (m:Md):Prop where
 na:m.sc.sC.length<=1000000000
 ns:m.sK.length<=1000000000
 nf:∀ s,s∈m.sK->s.length<=1000000000
 nt:∀ s,s∈m.sK->∀ r,r∈s->r.ts.length<=1000000000
instance:DecidableEq Sc:=fun a b=>decidable_of_iff (a.sC=b.sC/\a.sN=b.sN) (by
 obtain⟨a1,a2⟩:=a;obtain⟨b1,b2⟩:=b;simp)
instance:DecidableEq Md:=fun a b=>decidable_of_iff (a.sc=b.sc/\a.sK=b.sK/\a.loop=b.loop) (by
 obtain⟨a1,a2,a3⟩:=a;obtain⟨b1,b2,b3⟩:=b;simp)
theorem qoB(a b:Md):decide (a=b)=(decide (a.sc.sC=b.sc.sC)&&decide (a.sc.sN=b.sc.sN)&&decide (a.loop=b.loop)&&decide (a.sK=b.sK)):=by
 obtain⟨⟨o,p⟩,r,t⟩:=a;obtain⟨⟨C,I⟩,J,P⟩:=b;rw[jM];simp;constructor
 .rintro ⟨⟨g,i⟩,j,l⟩;exact⟨⟨⟨g,i⟩,l⟩,j⟩
 .rintro ⟨⟨⟨g,i⟩,l⟩,j⟩;exact⟨⟨g,i⟩,j,l⟩
theorem qbK(a b)(i:smMd a):qh qb 12 [eMd a,eMd b] (aB (decide (a=b))):=by
 refine qSV call12 func12 rfl ?_;rw[qoB];simp[go_sem];refine tK (XT _ _ (zW1 i.na)) (.zk (zg _) (.zk (zg _) .nil)) ?_;by_cases j:a.sc.sC=b.sc.sC
 .by_cases l:a.sc.sN=b.sc.sN
  .by_cases o:a.loop=b.loop
   .simp [go_sem,j,l,o]
    refine tK (mG a.sK b.sK _ (fun x y=>decide (x=y)) ⟨YJ _,_,_,rfl,fun x y g=>⟨[lRel x,lRel y],by simpa using WKs.zk (Qe x) (.zk (Qe y) .nil),XY x y (i.nf x g.1) (i.nt x g.1)⟩⟩ i.ns) (.zk (ZV _) (.zk (ZV _) (.zk (YJ _) .nil))) ?_;rw[KR];simp[go_sem];exact .zsc _
   .simp [go_sem,j,l,o]
    exact .zsc _
  .simp [go_sem,j,l]
   exact .zsc _
 .simp [go_sem,j]
  exact .zsc _
end GN
namespace GV
open Y1 YF P1 E3 E4 EO EQ F1 F4 GD GF GH GR GS
def modG(hv:Md->Bool×Int):List Md->List Md->List Md×Int
 |g,[]=>(g,0)
 |g,m :: l=>if (hv m).2≠0 then ([],(hv m).2) else modG hv (if (hv m).1=true then g++[m] else g) l
def modV(hv:Md->Bool×Int)(L:List Md)(g:Int):List Md×Int:=if g≠0 then ([],g) else modG hv [] L
theorem qbL(l):HF (lMd l):=HF.lst fun r i c g=>by
 obtain⟨n,_,rfl⟩:=qm.1 i;simp at g;rcases g with rfl|rfl|rfl|rfl<;>first|exact HF.sc _|exact zg _|exact ZV _
theorem qoC(ts sc bs n L e0 hv)(hl:L.length<=1000000)
  (hI:qh qb 33 [eTS ts,eSc sc,lBd bs] (.tup [lMd L,aI e0]))
  (hH:∀ m,m∈L->qh qb 10 [eTS ts,eMd m,eNd n] (.tup [aB (hv m).1,aI (hv m).2])) :
  qh qb 9 [eTS ts,eSc sc,lBd bs,eNd n] (.tup [lMd (modV hv L e0).1,aI (modV hv L e0).2]):=by
 refine qSU call9 func9 rfl ?_;refine tK hI (.zk (zm _) (.zk (zr _) (.zk (jn _) .nil))) ?_;have a7:∀(l:List Md)(e:Int),HF (.tup [lMd l,aI e]):=fun l e=>HF.tup (by simp only[qw,qH,or_false,forall_eq_or_imp,forall_eq];exact⟨qbL _,HF.sc _⟩)
 have a1:∀(C:Mu)(e:Int),Rd C (.tup [.lst true [],aI e]) (.tup [lMd [],aI e]):=fun C e=>by
  refine .tup _ _ rfl fun j x y t P=>?_
  match j with
  | 0=>simp at t P;subst t;subst P;exact .wk _ true _ (.hf _ (HF.lst fun r hr=>by simp at hr))
  | 1=>simp at t P;subst t;subst P;exact .zsc _
  |j+2=>simp at t
 by_cases a3:e0=0
 case neg =>
  simp[go_sem,a3,modV];exact a1 _ _
 subst a3;have a4:modV hv L 0=modG hv [] L:=by simp[modV]
 rw[a4];generalize hR:modG hv [] L=R;simp[go_sem];refine aK L.length (fun k U=>U.tm 4 = .ip (cTS ts)/\U.tm 5 = .ip [lI sc.sC,aI sc.sN]/\U.tm 7 = .ip (cNd n)/\U.tm 27=lMd L/\U.tm 28=aI L.length/\U.tm 29=aI k/\∃ o,modG hv o (L.drop k)=R/\o.length<=k/\Own U.mu 4 (U.tm 12) (o.map cMd)) ?_ ?_
 .exact ⟨zSi,zSi,zSi,zSi,zSi,zSi,[],zUs hR,zSp,.inl zSi⟩
 rintro k U hk ⟨e4,e5,e7,a2,T,a0,o,I,a8,ho⟩;by_cases p:k<L.length
 .have w1:=zWk k
  have hh:=hH _ (qp p);rw[zp p,modG]at I;simp[go_sem,e4,e7,a2,T,a0,p];refine tK hh (.zk (zm _) (.zk (yk _) (.zk (qK _) .nil))) ?_;by_cases he:(hv L[k]).2=0
  case neg =>
   rw[if_pos he]at I;subst I;simp[go_sem,he];exact a1 _ _
  rw[if_neg (fun h=>h he)]at I;cases hb:(hv L[k]).1 with
  |false =>
   rw[hb]at I;simp[go_sem,a0,p,he,w1]
   try refine⟨p,aA ?_⟩
   try refine aA ?_
   exact⟨zS1 e4,zS1 e5,zS1 e7,zS1 a2,zS1 T,zSi,o,zUs I,zOm,by simpa[go_sem] using Own.push ho _⟩
  |true =>
   rw[hb,if_pos rfl]at I;simp[go_sem,he];refine qy.ownB (e:=43) (sz:=4) (bt:=64) (zv := .agg [.lst true [],aI 0,.lst true [],aI 0]) (xs:=o.map cMd) (ys:=[cMd L[k]]) zSi zSi zSi rfl rfl zOm zOm (Own.push ho _) (by simp[qD]) (YT _) (YT [_]) zSo ?_;intro a9 aa a5 _ _ _;simp[go_sem,a0,p,w1]
   try refine⟨p,aA ?_⟩
   try refine aA ?_
   exact⟨zS1 e4,zS1 e5,zS1 e7,zS1 a2,zS1 T,zSi,o++[L[k]],I,zSo,by rw[zb];simpa[go_sem] using a5⟩
 .have a6:k=L.length:=by omega
  subst a6;rw[zW,modG]at I;subst I;simp[go_sem,T,a0];refine .tup _ _ rfl fun j x y t P=>?_
  match j with
  | 0=>simp at t P;subst t;subst P;exact cG ho
  | 1=>simp at t P;subst t;subst P;exact .zsc _
  |j+2=>simp at t
def y6(g:Md->Int):Md->List Md->Md
 |m,[]=>m
 |m,x :: l=>y6 g (if g x<g m then x else m) l
theorem bestU(p l fv g)(hl:l.length<=1000000)(hf:EO.FnOk qb fv eMd (fun m=>m∈p :: l) (fun m=>aI (g m))) :
  qh qb 62 [lMd (p :: l),fv] (.tup [eMd (y6 g p l),aI (g (y6 g p l))]):=by
 refine qSV call62 func62 rfl ?_;generalize hR:y6 g p l=R;simp[go_sem];refine fM ?_;refine FnOk.call (enc:=eMd) hf (zj ..) ?_;simp[go_sem];have a1:(l.map cMd).take l.length=l.map cMd:=zQ zSp;refine⟨⟨_,_,⟨rfl,rfl⟩,(YT (p :: l)).ok⟩,tT (lMd l) (by rw[if_pos zOm,a1]) ?_⟩;simp[go_sem];refine aK l.length (fun k U=>U.tm 1=fv/\U.tm 4 = .ptr 0 0/\U.tm 6 = .ptr 1 0/\U.tm 20=lMd l/\U.tm 21=aI l.length/\U.tm 22=aI k/\∃ b,b∈p :: l/\y6 g b (l.drop k)=R/\U.tm 7=aI (g b)/\U.mu[0]?=some (.arr [.lst true [],aI 0,.lst true [],aI 0])/\U.mu[1]?=some (.arr (cMd b))) ?_ ?_
 .exact ⟨zSi,zSi,zSi,zSi,zSi,zSi,p,zj ..,zUs hR,zSi,zSi,zSi⟩
 rintro k U hk ⟨e1,e4,J,r,j,o,b,a2,hB,P,h0,h1⟩;have a4:=(qj.1 h1).1;by_cases i:k<l.length
 .have w1:=zWk k
  rw[zp i,y6]at hB;simp[go_sem,e1,r,j,o,i];refine FnOk.call (enc:=eMd) hf (za _ (qp i)) ?_;have t:∀ c,(U.mu++[c])[0]?=some (.arr [.lst true [],aI 0,.lst true [],aI 0]):=fun c=>by rw[zGa];exact h0
  have C:∀ c,(U.mu++[c])[1]?=some (.arr (cMd b)):=fun c=>by rw[zGa];exact h1
  by_cases T:g l[k]<g b
  .rw [if_pos T]at hB
   simp[go_sem,J,o,P,i,T,C,w1]
   try refine⟨i,aA ?_⟩
   try refine aA ?_
   refine⟨zS1 e1,zS1 e4,zS1 J,zS1 r,zS1 j,zSi,l[k],za _ (qp i),hB,zSi,?_,?_⟩
   .simp only[qB];rw[zGl];exact t _
   .simp only[qB];rw[qL zSo]
  .rw [if_neg T]at hB
   simp[go_sem,o,P,i,T,w1]
   try refine⟨i,aA ?_⟩
   try refine aA ?_
   exact⟨zS1 e1,zS1 e4,zS1 J,zS1 r,zS1 j,zSi,b,a2,hB,zS1 P,by simp only[qB];exact t _,by simp only[qB];exact C _⟩
 .have a3:k=l.length:=by omega
  subst a3;rw[zW,y6]at hB;subst hB;have I:∀ c,(U.mu.set 0 c)[0]?=some c:=fun c=>qL zOm
  simp[go_sem,e4,J,j,o,P,h0,h1,I];exact .hf _ (HF.tup (by simp only[qw,qH,or_false,forall_eq_or_imp,forall_eq];exact⟨yk _,HF.sc _⟩))
def mdZ:Md:=⟨⟨[],0⟩,[],0⟩
def jt(g:Md->Int)(L:List Md)(i:Int):Md×Int×Int:=if i≠0 then (mdZ,0,i) else match L with
 | []=>(mdZ,0,270)
 |j :: l=>(y6 g j l,g (y6 g j l),0)
abbrev tup3(r:Md×Int×Int):AV := .tup [eMd r.1,aI r.2.1,aI r.2.2]
theorem qbM(r):HF (tup3 r):=HF.tup (by simp only[qw,qH,or_false,forall_eq_or_imp,forall_eq];exact⟨yk _,HF.sc _,HF.sc _⟩)
theorem qbN(mu):Rd mu (.agg [.lst true [],aI 0,.lst true [],aI 0]) (eMd mdZ):=
 Rd.aggs ⟨.wk _ true _ (.hf _ (HF.lst fun r g=>by simp at g)),.hf _ (HF.sc _),.wk _ true _ (.hf _ (HF.lst fun r g=>by simp at g)),.hf _ (HF.sc _),trivial⟩
theorem Vg(mu x e):Rd mu (.tup [.agg [.lst true [],aI 0,.lst true [],aI 0],aI x,aI e]) (tup3 (mdZ,x,e)):=by
 refine .tup _ _ rfl fun j u v g i=>?_
 match j with
 | 0=>simp at g i;subst g;subst i;exact qbN mu
 | 1=>simp at g i;subst g;subst i;exact .zsc _
 | 2=>simp at g i;subst g;subst i;exact .zsc _
 |j+3=>simp at g
theorem qbO(ts sc t n i)(j:HF i)(L o g)(I:L.length<=1000000)
  (J:qh qb 9 [eTS ts,eSc sc,lBd t,eNd n] (.tup [lMd L,aI o]))
  (hf:EO.FnOk qb i eMd (fun m=>m∈L) (fun m=>aI (g m))) :
  qh qb 31 [eTS ts,eSc sc,lBd t,eNd n,i] (tup3 (jt g L o)):=by
 refine qSU call31 func31 rfl ?_;refine tK J (.zk (zm _) (.zk (zr _) (.zk (jn _) (.zk (qK _) .nil)))) ?_;by_cases C:o=0
 .subst C
  cases L with
  |nil =>
   simp[go_sem,jt];exact Vg _ _ _
  |cons p l =>
   have r:¬(l.length:Int)+1=0:=zOm;have P:=bestU p l i g (by simp at I;omega) hf;simp[go_sem,jt,r];refine fR P (.zk (qbL _) (.zk j .nil)) ?_;exact .hf _ (qbM (y6 g p l,g (y6 g p l),0))
 .simp [go_sem,jt,C]
  exact Vg _ _ _
theorem fromU(t m)(i:SmS t.sK)(j:SmS m.sK)(g:m.sc.sC.length<=1000000):qh qb 32 [eMd t,eMd m] (aI (yu m t)):=by
 refine qSU call32 func32 rfl ?_;refine fR (UH m t j i g) (.zk (yk _) (.zk (yk _) .nil)) ?_;exact .zsc _
def v6(g:Bool)(sc:Sc)(L:List Md)(i:Int)(m:Md):Md×Int×Int:=if g=true/\m.sc.sN=sc.sN/\m.sc.sC=sc.sC then jt (fun x=>yu x m) L i else (mdZ,0,1)
theorem qbP(ts sc p n m r L g)(P:L.length<=1000000)(T:SmS m.sK)(I:∀ x,x∈L->SmS x.sK/\x.sc.sC.length<=1000000)(t:m.sc.sC.length<=1000000)
  (hV:qh qb 29 [eTS ts,eMd m] (aB r))
  (U:qh qb 9 [eTS ts,eSc sc,lBd p,eNd n] (.tup [lMd L,aI g])) :
  qh qb 8 [eTS ts,eSc sc,lBd p,eNd n,eMd m] (tup3 (v6 r sc L g m)):=by
 have hs:=mH m.sc sc t;have hf:EO.FnOk qb (.fn (.func 32) [eMd m] []) eMd (fun x=>x∈L) (fun x=>aI (yu x m)):=
  ⟨HF.fn (fun c o=>by simp at o;subst o;exact yk m) (fun c o=>by simp at o),_,_,_,rfl,fun x J=>⟨[eMd m,eMd x],by simpa using WKs.zk (yk m) (.zk (yk x) .nil),fromU m x T (I x J).1 (I x J).2⟩⟩
 have C:=qbO ts sc p n _ hf.1 L g (fun x=>yu x m) P U hf;refine qSU call8 func8 rfl ?_;refine tK hV (.zk (zm _) (.zk (yk _) .nil)) ?_;cases r with
 |false =>
  simp[go_sem,v6];exact Vg _ _ _
 |true =>
  simp[go_sem];refine tK hs (.zk (zr _) (.zk (zr _) .nil)) ?_;by_cases i:m.sc.sN=sc.sN
  .by_cases j:m.sc.sC=sc.sC
   .have l:v6 true sc L g m=jt (fun x=>yu x m) L g:=by rw[v6,if_pos ⟨rfl,i,j⟩]
    rw[l];generalize jt (fun x=>yu x m) L g=R at *
    simp[go_sem,i,j];have wf:WK (.fn (.func 32) [.agg [lI sc.sC,aI sc.sN,lSt m.sK,aI m.loop]] []) (.fn (.func 32) [eMd m] []):=by rw[<-i,<-j];exact WK.hf hf.1
    refine fR C (.zk (zm _) (.zk (zr _) (.zk (jn _) (.zk (qK _) (.cons wf .nil))))) ?_;exact .hf _ (qbM R)
   .have l:v6 true sc L g m=(mdZ,0,1):=by rw[v6,if_neg (fun h=>j h.2.2)]
    rw[l];simp[go_sem,i,j];exact Vg _ _ _
  .have l:v6 true sc L g m=(mdZ,0,1):=by rw[v6,if_neg (fun h=>i h.2.1)]
   rw[l];simp[go_sem,i];exact Vg _ _ _
end GV
namespace GW
open YF P1 E1 E4 E9 EL EO ER EW GA GF G5 GQ GR
theorem qbQ:∀ l x i,0<=x->wv l x i = -1\/∃(j:Nat) (h:j<l.length),wv l x i=i+j/\0<=x-sumI (l.take j)/\x-sumI (l.take j)<l[j]
 | [],x,i,_ => .inl rfl
 |a :: l,x,i,h=>by
  rw[wv];by_cases g:x<a
  .grind [sumI]
  .rw [if_neg g]
   rcases qbQ l (x-a) (i+1) zOm with e|⟨j,o,p,r,t⟩
   .exact .inl e
   .refine .inr ⟨j+1,zUs o,by rw[p];push_cast;omega,?_,?_⟩
    .simp only[List.take_succ_cons,sumI,List.foldr_cons]at r⊢;omega
    .simp only[List.take_succ_cons,sumI,List.foldr_cons,List.getElem_cons_succ]at t⊢;omega
def Vh(n:Int)(ds:List Int)(p:Int):Int:=ds.foldl (fun p d=>p*n+d) p
theorem qbR(n)(i:0<n):∀ k r,0<=r->r<n ^ k->Vh n (digs n k r) 0=r
 | 0,r,j,g=>by
  have:r=0:=by rw[Int.pow_zero]at g;omega
  subst this;rfl
 |k+1,r,j,g=>by
  have l:r / n<n ^ k:=Int.ediv_lt_of_lt_mul i (by rw[<-Int.pow_succ];exact g);rw[digs,Vh,vL];show Vh n (digs n k (r / n)) 0*n+r % n=r;rw[qbR n i k (r / n) (Int.ediv_nonneg j zOm) l,Int.mul_comm];exact Int.mul_ediv_add_emod r n
theorem qbS(sc)(J:∀ a,a∈sc.sC->0<=a):∀(l ds:List Int)(p),ds.length=l.length->(∀ s,s∈l->0<=s)->(∀(i h)(h2:i<l.length),0<=ds[i]/\uO sc ds[i]=l[i])->Vh (sumI sc.sC) ds p∈tupR sc l p
 | [],[],p,_,_,_=>by simp[tupR,Vh]
 |s :: l,d :: ds,p,o,I,h=>by
  rw[tupR,wS];obtain⟨r,g⟩:=h 0 zSp zSp;simp only[List.getElem_cons_zero]at r g;have P:=I s zSp;rcases qbQ sc.sC d 0 r with e|⟨j,R,T,e2,e3⟩
  .rw [uO,e]at g;omega
  .rw [uO,T]at g
   have t:s.toNat=j:=zOm;have U:gI sc.sC s.toNat=sc.sC[j]:=by rw[t];exact uH R
   refine⟨(d-sumI (sc.sC.take j)).toNat,z7.2 (by rw[U];omega),?_⟩;have:=qbS sc J l ds (p*sumI sc.sC+d) (zUs o) (fun s hs=>I s (zP1 hs)) (fun i hi C=>h (i+1) (zUs hi) (zUs C));rw[t,show sumI (sc.sC.take j)+((d-sumI (sc.sC.take j)).toNat:Int)=d by omega];exact this
 | [],_ :: _,_,o,_,_=>by simp at o
 |_ :: _,[],_,o,_,_=>by simp at o
theorem qoD(sc)(g:GSc sc)(C:0<sumI sc.sC)(l:List Int)(J:l.length<=3)(P:∀ s,s∈l->0<=s/\s<sc.sC.length):∀ x,x∈yF sc l->x∈tupR sc l 0:=fun x I=>by
 have j:=g.sum sc.sC.length;rw[qO]at j;have R:=YK (sumI sc.sC) j.1 j.2 l.length J;unfold yF vu at I;obtain⟨r,T,rfl⟩:=qm.1 I;obtain⟨U,h2⟩:=List.mem_filter.1 T;rw[z7]at U;have o:(r:Int)<sumI sc.sC ^ l.length:=zOm;have hf:=qbR (sumI sc.sC) C l.length r zOm o;have hm:=qbS sc (fun a ha=>(g.2 a ha).1) l (digs (sumI sc.sC) l.length r) 0 (YL _ _ _) (fun s p=>(P s p).1) (fun i hi t=>?_)
 .grind
 .have hd:=Ka (sumI sc.sC) C j.2 l.length r _ (qp hi)
  refine⟨hd.1,?_⟩;have:=Xp.1 h2 i t
  grind [uH]
theorem qbT(ts sc)(F:Fit9 ts sc)(t:yR sc=true):qh qb 55 [eTS ts,eSc sc] (aB true):=by
 have I:=F.g;simp only[yR,qE,decide_eq_true_eq,List.all_eq_true]at t;obtain⟨h1,J,P,R,T⟩:=t;have o:=F.ns;refine qSV call55 func55 rfl ?_;have n1:¬(4:Int)<sc.sC.length:=zOm;simp[go_sem,n1,o];have C:=fun a b c:Int=>UE a b c
 refine tK (C sc.sN 1 4) (wk3I _ _ _) ?_;simp[go_sem,J,P];refine aK sc.sC.length (fun k U=>U.tm 2 = .ip (cTS ts)/\U.tm 3 = .ip [lI sc.sC,aI sc.sN]/\U.tm 27=lI sc.sC/\U.tm 28=aI sc.sC.length/\U.tm 29=aI k) ?_ ?_
 .simp [go_sem, *]
 rintro k U hk ⟨e2,e3,p,i,j⟩;by_cases l:k<sc.sC.length
 .have w1:=zWk k
  have ha:=R _ (qp l);simp[go_sem,p,i,j,l];refine tK (C sc.sC[k] 1 5) (wk3I _ _ _) ?_;simp_all[go_sem,aA]
 .have r:k=sc.sC.length:=by omega
  simp[go_sem,e3,i,j,r];refine tK (Yw sc I) (.zk (zr sc) .nil) ?_;simp[go_sem,T];exact .zsc _
theorem qoE(n)(r:Rl)(T:0<=n)(a0:n<=12)(k:Nat)(hk:r.ar=k)(k1:1<=k)(k3:k<=3)(hl:r.ts.length<=1000000000)(hs:r.ts.Pairwise (·<·))(ht:∀ t,t∈r.ts->0<=t/\t<n ^ k):qh qb 58 [aI n,eRel r] (aB true):=by
 have C:=me n T zOm k k3;refine qSV call58 func58 rfl ?_;have n1:¬n<0:=zOm;have n2:¬ 12<n:=zOm;have n3:¬r.ar<1:=zOm;have n4:¬ 3<r.ar:=zOm;simp[go_sem,n1,n2,n3,n4];refine aK r.ts.length (fun j U=>U.tm 0=aI n/\U.tm 3 = .ip [aI r.ar,lI r.ts]/\U.tm 25=lI r.ts/\U.tm 26=aI r.ts.length/\U.tm 27=aI j/\∃ last:Int,U.tm 5=aI last/\∀(i:Nat)(h:i<r.ts.length),j<=i->last<r.ts[i]) ?_ ?_
 .exact ⟨zSi,zSi,zSi,zSi,zSi,-1,zSi,fun i h _=>by grind [qp]⟩
 rintro j U hj ⟨P,R,p,l,o,last,e5,I⟩;by_cases g:j<r.ts.length
 .have w1:=zWk j
  have a1:=I j g (qr _);have a2:=ht _ (qp g);have m1:¬r.ts[j]<=last:=zOm;have m2:¬n ^ k<=r.ts[j]:=zOm;simp[go_sem,P,R,p,l,o,e5,g,m1];refine tK C (by rw[hk];exact .zs (.zs .nil)) ?_;simp[go_sem,o,g,m2,w1]
  try refine⟨g,aA ?_⟩
  try refine aA ?_
  exact⟨zS1 P,zS1 R,zS1 p,zS1 l,zSi,r.ts[j],zSi,fun i h hi=>List.pairwise_iff_getElem.1 hs j i g h zOm⟩
 .have J:j=r.ts.length:=by omega
  simp[go_sem,l,o,J];exact .zsc _
structure BndV (ts:TS) (sc:Sc) (bs:List Bd):Prop where
 len:bs.length=ts.sA.length
 lo:∀(i:Nat)(h:i<bs.length)(h2:i<ts.sA.length),bs[i].lo.ar=ts.sA[i].sS.length/\bs[i].up.ar=ts.sA[i].sS.length
 so:∀ b,b∈bs->b.lo.ts.Pairwise (·<·)/\b.up.ts.Pairwise (·<·)
 sub:∀ b,b∈bs->∀ t,t∈b.lo.ts->t∈b.up.ts
 full:∀(i:Nat)(h:i<bs.length)(h2:i<ts.sA.length),∀ t,t∈bs[i].up.ts->t∈yF sc ts.sA[i].sS
theorem qbU{a b}(h:∀ t,t∈a.ts->t∈b.ts):(diR a b).ts=[]:=by
 grind [diR,List.filter_eq_nil_iff]
theorem qbV(sc l):∀ t,t∈yF sc l->0<=t/\t<(sumI sc.sC ^ l.length).toNat:=fun t g=>qk8 _ _ _ t g
theorem qbW(sc)(g:GSc sc)(l)(j:l.length<=3):(yF sc l).length<=8000:=by
 have i:=g.sum sc.sC.length;rw[qO]at i;have o:=YK (sumI sc.sC) i.1 i.2 l.length j;refine zL (Kb _ _ _) ?_;omega
theorem Ja{a b:List Int}(g:a.Pairwise (·<·))(h:∀ t,t∈a->t∈b):a.length<=b.length:=List.Nodup.length_le_of_subset (ui g) h
theorem relT(ts sc)(F:Fit9 ts sc)(l:sumI sc.sC<=12)(f)(hf:f∈ts.sA)(r:Rl)(o:r.ar=f.sS.length)(C:r.ts.Pairwise (·<·))(i:∀ t,t∈r.ts->t∈yF sc f.sS):qh qb 58 [aI (sumI sc.sC),eRel r] (aB true)/\r.ts.length<=8000:=by
 have R:=Ja C i;have I:=qbW sc F.g f.sS (F.f1 f hf).2;have T:=F.p;have j:=F.g.sum sc.sC.length;rw[qO]at j;have J:=YK (sumI sc.sC) j.1 j.2 f.sS.length (F.f1 f hf).2;exact⟨qoE _ r zOm l f.sS.length o (F.f1 f hf).1 (F.f1 f hf).2 zOm C fun t P=>zW1 (qbV sc f.sS t (i t P)),zOm⟩
theorem qbX(ts sc)(F:Fit9 ts sc)(f)(hf:f∈ts.sA)(r)(J:r.ts.length<=8000)(i:∀ t,t∈r.ts->t∈yF sc f.sS):qh qb 59 [eRel r,eRel ⟨f.sS.length,tupR sc f.sS 0⟩] (aB true):=by
 have j:=X2 sc F.g (fun a l=>(F.g.2 a l).1) f.sS (F.fs f hf) 0;have o:=(F.f1 f hf).2;have C:(20:Nat) ^ f.sS.length<=8000:=by
  rcases (show f.sS.length=0\/f.sS.length=1\/f.sS.length=2\/f.sS.length=3 by omega) with e|e|e|e<;>rw[e]<;>decide
 have h:=inU r ⟨f.sS.length,tupR sc f.sS 0⟩ zOm (by grind)
 rwa[qbU fun t I=>qoD sc F.g F.p f.sS o (F.fs f hf) t (i t I),decide_eq_true rfl]at h
theorem qoF(fs:List Fld)(l)(J:l.length=fs.length)(hn:fs.length<=1000000)(r g caps)(t:r = .fn (.func g) [] caps)(P:HF r)
  (h:∀(i h1)(h2:i<l.length),∃ args',WKs ([Ud fs[i],eBd l[i]]++caps) args'/\qh qb g args' (aB true)) :
  qh qb 107 [.lst false (fs.map j8),lBd l,r] (aB true):=by
 subst t;refine qSV call107 func107 rfl ?_;simp[go_sem,J];refine aK fs.length (fun k U=>U.tm 0 = .lst false (fs.map j8)/\U.tm 1=lBd l/\U.tm 2 = .fn (.func g) [] caps/\U.tm 14=aI fs.length/\U.tm 15=aI k) ?_ ?_
 .simp [go_sem, *]
 rintro k U hk ⟨R,T,e2,o,p⟩;by_cases j:k<fs.length
 .have w1:=zWk k
  obtain⟨args',hw,hc⟩:=h k j zOm;have C:k<l.length:=zOm;simp[go_sem,o,p,j];refine cL zKr ?_;simp[go_sem,R,T,e2,j,C];refine fW hc (zUs hw) ?_;simp_all[go_sem,aA]
 .have I:k=fs.length:=by omega
  simp[go_sem,o,p,I];exact .zsc _
theorem qoG(ts sc l)(F:Fit9 ts sc)(a0:sumI sc.sC<=12)(B:BndV ts sc l):qh qb 63 [eTS ts,eSc sc,lBd l] (aB true):=by
 have a8:=F.nf;have a4:∀(i:Nat)(T:i<ts.sA.length)(U:i<l.length),qh qb 108 [Ud ts.sA[i],eBd l[i],.ip [aI (sumI sc.sC)],.ip [lI sc.sC,aI sc.sN]] (aB true):=fun i T U=>by
  obtain⟨a1,a2⟩:=B.lo i U T;have o:=qp T;have J:=qp U;obtain⟨s1,s2⟩:=B.so _ J;have P:=B.full i U T;have a5:∀ t,t∈l[i].lo.ts->t∈yF sc ts.sA[i].sS:=fun t ht=>P t (B.sub _ J t ht)
  obtain⟨v1,l1⟩:=relT ts sc F a0 _ o l[i].lo a1 s1 a5;obtain⟨v2,l2⟩:=relT ts sc F a0 _ o l[i].up a2 s2 P;have i1:=inU l[i].lo l[i].up zOm zOm;rw[qbU (B.sub _ J),decide_eq_true rfl]at i1;have i2:=qbX ts sc F _ o l[i].up l2 P;have a6:=EW.X3 sc F.g (fun a ha=>(F.g.2 a ha).1) ts.sA[i].sS (F.fs _ o) (F.f1 _ o).1 (F.f1 _ o).2;have w2:∀ r:Rl,WKs [aI (sumI sc.sC),eRel r] [aI (sumI sc.sC),eRel r]:=fun r => .zs (.zk (qP _) .nil)
  have wr:∀(r:Rl)(x:Int),r.ar=x->WK (.agg [aI x,lI r.ts]) (eRel r):=fun r x e=>by subst e;exact .hf (qP r)
  have wa:=wr l[i].lo _ a1;have wb:=wr l[i].up _ a2;refine qSV call108 func108 rfl ?_;simp[go_sem,a1,a2];refine tK v1 (.zs (.cons wa .nil)) ?_;simp[go_sem,a2];refine fR v2 (.zs (.cons wb .nil)) ?_;refine cL zKr ?_;simp[go_sem,a1,a2];refine tK i1 (.cons wa (.cons wb .nil)) ?_;simp[go_sem,a2];refine fR a6 (.zk (zr _) (.zk (zg _) .nil)) ?_;refine fR i2 (.cons wb (.zk (qP _) .nil)) ?_;exact .zsc _
 have j:HF (.ip [lI sc.sC,aI sc.sN]):=HF.ip fun c C=>by simp at C;rcases C with rfl|rfl;exact zg _;exact HF.sc _
 have I:HF (.ip [aI (sumI sc.sC)]):=HF.ip fun c C=>by grind [HF.sc]
 have a3:HF (.fn (.func 108) [] [.ip [aI (sumI sc.sC)],.ip [lI sc.sC,aI sc.sN]]):=HF.fn (fun c C=>by simp at C) (fun c C=>by simp at C;rcases C with rfl|rfl;exact I;exact j);have p:=qoF ts.sA l B.len zOm _ _ _ rfl a3 fun i T U=>⟨_,by simpa using WKs.zk (nq _) (.zk (KM _) (.zk I (.zk j .nil))),a4 i T U⟩
 refine qSU call63 func63 rfl ?_;refine fR (Yw sc F.g) (.zk (zr sc) .nil) ?_;refine fQ (qC.freeze (args1:=[.lst false (ts.sA.map j8),lBd l,.fn (.func 108) [] [.ip [aI (sumI sc.sC)],.ip [lI sc.sC,aI sc.sN]]]) (fun _=>true) ⟨.inl rfl,.inl rfl,.inr ?_,trivial⟩ (qh.toSound _ p (.zk (JQ ts.sA) (.zk (jn _) (.zk a3 .nil))))) ?_ ?_
 .refine .fn _ _ _ _ _ rfl rfl (fun k x y R hy=>by simp at R) (fun k x y R hy=>?_)
  match k with
  | 0=>simp at R hy;subst R;subst hy;exact ER.Rd.ip1 (x:=aI (sumI sc.sC)) (by simp[cutM]) (.hf _ (HF.sc _))
  | 1=>simp at R hy;subst R;subst hy;exact .hf _ j
  |k+2=>simp at R
 .rintro r m ⟨h,rfl⟩
  cases h;simp[go_sem];exact .zsc _
 grind
end GW
namespace IT
end IT
namespace YZ
open YM P1 Y1 Y9 YX
mutual
def depN:Nd->Int
 | .mk _ _ _ ks _=>yw ks+1
def yw:List Nd->Int
 | []=>0
 |k :: ks=>max (depN k) (yw ks)
end
mutual
theorem qoH:∀ n:Nd,0<=depN n
 | .mk _ _ _ ks _=>by simp only[depN];have:=UX ks;omega
theorem UX:∀ ks:List Nd,0<=yw ks
 | []=>by simp[yw]
 |k :: ks=>by simp only[yw];have:=UX ks;omega
end
theorem Zs(n):depN n=yw n.sD+1:=by
 obtain⟨op,o,i,ks,p⟩:=n;simp[depN,Nd.sD]
theorem qbY{ks k}(h:k∈ks):depN k<=yw ks:=by
 induction ks with
 |nil=>simp at h
 |cons a l g =>
  simp only[yw];rcases qw.1 h with rfl|h
  .omega
  .have:=g h;omega
theorem qbZ:∀ m n,szN n<=m->Small n->depN n<=1000000->qh qb 75 [eNd n] (aI (depN n))
 | 0,n,I,_,_=>by obtain⟨op,nm,i,ks,p⟩:=n;simp[szN]at I
 |m+1,n,I,J,P=>by
  have ih:∀ k,k∈n.sD->qh qb 75 [eNd k] (aI (depN k)):=fun k j =>
   qbZ m k (zW1 (yr j)) (J.kid j) (by rw[Zs]at P;have:=qbY j;omega)
  rw[Zs]at P⊢;have R:=J.len;have a0:=UX n.sD;generalize hD:yw n.sD=D at *
  refine qSU call75 func75 rfl ?_;refine aK n.sD.length (fun k U=>∃ d,U.tm 3=aI d/\U.tm 7=lNd n.sD/\U.tm 8=aI n.sD.length/\U.tm 9=aI k/\0<=d/\max d (yw (n.sD.drop k))=D) ?_ ?_
  .exact ⟨0,zSi,zSi,zSi,zSi,zOm,by simp only[List.drop_zero,hD];omega⟩
  .rintro k U j ⟨d,T,e7,o,r,a1,l⟩
   by_cases t:k=n.sD.length
   .subst t
    rw[zW]at l;simp only[yw]at l;have C:d=D:=zOm;subst C;have w:qo.wrap (d+1)=d+1:=zWr;simp[go_sem,T,o,r,w];exact .zsc _
   .have g:k<n.sD.length:=by omega
    have w1:=zWk k;rw[zp g]at l;simp only[yw]at l;simp[go_sem,T,e7,o,r,g];refine tK (ih n.sD[k] (qp g)) (.zk (qK _) .nil) ?_;simp[go_sem,r,w1];refine⟨g,aA ?_⟩;refine⟨if d<depN n.sD[k] then depN n.sD[k] else d,zSi,zS1 e7,zS1 o,zSi,?_,?_⟩
    .have:=qoH n.sD[k]
     split<;>omega
    .split<;>omega
mutual
def preN:Nd->List Nd
 | .mk op o n ks p => .mk op o n ks p :: zx ks
def zx:List Nd->List Nd
 | []=>[]
 |k :: ks=>preN k++zx ks
end
theorem wE(n):preN n=n :: zx n.sD:=by
 obtain⟨op,o,i,ks,p⟩:=n;simp[preN,Nd.sD]
theorem Jb(a b):zx (a++b)=zx a++zx b:=by
 induction a with
 |nil=>rfl
 |cons x a g=>simp[zx,g]
theorem KS{f caps}(I:List Nd->Mu->Prop)(hp:∀ v mu l,I v mu->I v (mu++l))(hf:∀ v k mu,I v mu->qC qb f (eNd k :: caps) mu fun e m=>e = .ret (.tup [])/\I (v++[k]) m) :
  ∀ m n,szN n<=m->Small n->∀ v mu,I v mu->qC qb 68 [eNd n,.fn (.func f) [] caps] mu fun e m=>e = .ret (.tup [])/\I (v++preN n) m
 | 0,n,hm,_,_,_,_=>by obtain⟨op,nm,i,ks,p⟩:=n;simp[szN]at hm
 |m+1,n,hm,hs,v,mu,J=>by
  have ih:∀ k,k∈n.sD->∀ v mu,I v mu->qC qb 68 [eNd k,.fn (.func f) [] caps] mu fun e m=>e = .ret (.tup [])/\I (v++preN k) m:=fun k P v mu J =>
   KS I hp hf m k (zW1 (yr P)) (hs.kid P) v mu J
  have a1:=hs.len;rw[wE];refine qSW call68 func68 rfl {} ?_;simp[go_sem];refine fY (hf v n mu J) ?_ (by rintro r m ⟨e,_⟩;cases e);rintro r m ⟨e,R⟩;cases e;simp[go_sem];refine aK n.sD.length (fun k U=>U.tm 1 = .fn (.func f) [] caps/\U.tm 10=lNd n.sD/\U.tm 11=aI n.sD.length/\U.tm 12=aI k/\I (v++[n]++zx (n.sD.take k)) U.mu) ?_ ?_
  .exact ⟨zSi,zSi,zSi,zSi,by simpa[go_sem,zx] using R⟩
  .rintro k U P ⟨e1,C,j,o,t⟩
   by_cases T:k=n.sD.length
   .subst T
    rw[qO]at t;simp[go_sem,j,o];simpa using t
   .have g:k<n.sD.length:=by omega
    have w1:=zWk k;simp[go_sem,e1,C,j,o,g];refine fQ (ih n.sD[k] (qp g) _ _ (hp _ _ _ t)) ?_ (by rintro r m ⟨e,_⟩;cases e);rintro r m ⟨e,a0⟩;cases e;simp[go_sem,o,w1];refine⟨g,aA ?_⟩;refine⟨zS1 e1,zS1 C,zS1 j,zSi,?_⟩;have e:zx (n.sD.take (k+1))=zx (n.sD.take k)++preN n.sD[k]:=by
     rw[List.take_add_one,qz g,Jb];simp[zx]
    rw[e,<-zt];simpa[go_sem] using a0
def setN(l:List tM)(b:tM):List (tM×Bool)->List (tM×Bool):=fun T=>setK b true T
abbrev eSet(es:List (tM×Bool)):List (AV×AV):=encK aS aB es
theorem updS{mu b es}(i:mu[b]?=some (.mp (eSet es)))(nm) :
  jQ qb mu 133 (.mp b) (aS nm) (aB true)=some (mu.set b (.mp (eSet (setK nm true es)))):=
 keyS.update (et:=4) (t:=133) zSi (mu:=mu) (b:=b) (venc:=aB) (es:=es) i (k:=nm) (v:=true) trivial (fun _ _=>trivial)
theorem qoI(ts s tb c es n){mu p g xb}(r:mu[p]?=some (.arr [.ptr xb 0]))(t:mu[xb]?=some (.arr (cIn ts tb s)))(l:mu[g]?=some (.arr [aB c]))(j:mu[tb]?=some (.mp (eSet es))) :
  qC qb 69 [eNd n,.ptr p 0,.ptr g 0] mu fun e m=>e = .ret (.tup [])/\m=(mu.set tb (.mp (eSet (setK n.name true es)))).set g (.arr [aB (c||decide (n.op=47))]):=by
 refine qSW call69 func69 rfl {} ?_;have C:g<mu.length:=(qj.1 l).1;have I:tb<mu.length:=(qj.1 j).1;simp[go_sem];refine cL zKr ?_;have J:=updS j n.name;simp[go_sem,r,t];refine tT _ J ?_;have o:tb≠g:=fun e=>by rw[e,l]at j;cases j
 generalize P:Cell.mp (eSet (setK n.name true es))=N at *
 have i:(mu.set tb N)[g]?=some (.arr [aB c]):=by rw[yA o];exact l
 cases c
 .simp [go_sem,i]
  try rfl
 .simp [go_sem,i]
  try rfl
theorem qoJ(ts s tb es n){mu g xb}(j:mu[g]?=some (.arr [.ptr xb 0]))(l:mu[xb]?=some (.arr (cIn ts tb s)))(i:mu[tb]?=some (.mp (eSet es))) :
  qC qb 70 [eNd n,.ptr g 0] mu fun e m=>e = .ret (.tup [])/\m=mu.set tb (.mp (eSet (setK n.name true es))):=by
 refine qSW call70 func70 rfl {} ?_;have o:tb<mu.length:=(qj.1 i).1;simp[go_sem];refine cL zKr ?_;have p:=updS i n.name;simp[go_sem,j,l];refine tT _ p ?_;simp[go_sem]
end YZ
namespace YA
open YM YS YF P1 Y1 Y9 Y10 YX YZ
def vN(k:Int):tM:=⟨#[118]⟩++jx k
theorem KT(k)(g : -9223372036854775808<=k)(i:k<=9223372036854775807):(jx k).size<=21:=by
 have:=Lib.itoa_length_le k g i;unfold jx;simpa[ByteArray.size] using this
def yG(ts:TS)(es:List (tM×Bool))(nm:tM):Bool:=decide (getK nm es≠some true)&&decide (means ts nm=[])
def zy(ts:TS)(es:List (tM×Bool)):Nat->Int->Int
 | 0,k=>k+1
 |f+1,k=>if yG ts es (vN (k+1))=true then k+1 else zy ts es f (k+1)
theorem qoK{mu tb es}(i:mu[tb]?=some (.mp (eSet es)))(nm):yp qb mu 133 (.mp tb) (aS nm) false=some (aB (decide (getK nm es=some true))):=by
 have:=keyS.look (et:=4) (t:=133) zSi (mu:=mu) (m := .mp tb) (venc:=aB) (es:=es) (by simp only[j0,i]) (k:=nm) trivial (fun _ _=>trivial) (z:=aB false) zSi false;refine Eq.trans ?_ (this.trans ?_)
 .rfl
 .cases getK nm es with
  |none=>rfl
  |some b=>cases b<;>rfl
theorem qoL{mu:Mu}{b c}(h:mu[b]?=some c):mu.set b c=mu:=by
 apply jL;intro i;by_cases e:b=i
 .subst e
  rw[qL (qj.1 h).1,h]
 .rw [yA e]
theorem qb0(ts)(h:okTS ts)(s:ISt)(F:Nat)(hs:0<=s.last/\s.last+F<=1000000000)(tb es)(T:∃ j,1<=j/\j<=F/\yG ts es (vN (s.last+j))=true){mu xb}(hx:mu[xb]?=some (.arr (cIn ts tb s)))(ht:mu[tb]?=some (.mp (eSet es))) :
  qC qb 170 [.ptr xb 0] mu fun e m=>e = .ret (aS (vN (zy ts es F s.last)))/\m=mu.set xb (.arr (cIn ts tb ⟨zy ts es F s.last,s.sM⟩)):=by
 refine qSW call170 func170 rfl {} ?_;have a0:xb<mu.length:=(qj.1 hx).1;have a3:tb≠xb:=fun e=>by rw[e,hx]at ht;cases ht
 simp[go_sem];generalize hR:zy ts es F s.last=R;refine tA (fun m U=>∃ l:Int,0<=l/\l+m<=1000000000/\U.tm 0 = .ptr xb 0/\U.mu=mu.set xb (.arr (cIn ts tb ⟨l,s.sM⟩))/\zy ts es m l=R/\∃ j:Nat,1<=j/\j<=m/\yG ts es (vN (l+j))=true) F ?_ ?_
 .refine ⟨s.last,hs.1,hs.2,zSi,?_,hR,T⟩
  simp only[go_sem,qB,st0];rw[show cIn ts tb ⟨s.last,s.sM⟩=cIn ts tb s from rfl];exact(qoL hx).symm
 .rintro m U ⟨l,a7,a8,C,hm,hI,j,a9,aa,r⟩
  obtain⟨m,rfl⟩:∃ m',m=m'+1:=⟨m-1,zOm⟩;have w1:qo.wrap (l+1)=l+1:=zWr;have t:∀ c,(mu.set xb c)[xb]?=some c:=fun c=>qL a0
  have a4:∀ c d,(mu.set xb c).set xb d=mu.set xb d:=fun c d=>List.set_set ..
  have a5:∀ c,(mu.set xb c)[tb]?=some (.mp (eSet es)):=fun c=>by rw[yA (fun e=>a3 e.symm)];exact ht
  have ab:=KT (l+1) zOm zOm;have I:1+(jx (l+1)).size<=9223372036854775807:=zOm;simp[go_sem,C,hm,t,a4,w1];refine tK (itoaU (l+1) zOm zOm) (.zs .nil) ?_;simp[go_sem,C,t,I];rw[show (⟨#[118]⟩:tM)++jx (l+1)=vN (l+1) from rfl];generalize i:vN (l+1)=o;have J:=fun c=>qoK (a5 c) o
  simp[go_sem]at J;refine tT _ (J _) ?_;have g:yG ts es o=false->zy ts es m (l+1)=R/\∃ j:Nat,1<=j/\j<=m/\yG ts es (vN (l+1+j))=true:=fun hn=>by
   simp only[zy,i,hn]at hI;refine⟨zUs hI,j-1,?_,zOm,?_⟩
   .have:j≠1:=fun e=>by rw[e,show l+((1:Nat):Int)=l+1 by omega,i,hn]at r;cases r
    omega
   .rw [show l+1+((j-1:Nat):Int)=l+j by omega];exact r
  by_cases P:getK o es=some true
  case pos =>
   obtain⟨a1,a2⟩:=g (by simp[yG,P]);simp[go_sem,P];refine Keep.loop m zOm ⟨l+1,zOm,zOm,zS1 C,zSi,a1,a2⟩
  case neg =>
   simp[go_sem,C,t,P];refine tK (Ki ts h o) (.zk (zm ts) (.zs .nil)) ?_;by_cases p:means ts o=[]
   .have a6:R=l+1:=by
     rw[<-hI];simp[zy,i,yG,P,p]
    subst a6;simp[go_sem,p];rw[i]
    try rfl
   .obtain ⟨a1,a2⟩:=g (by simp[yG,p])
    simp[go_sem,p];refine Keep.loop m zOm ⟨l+1,zOm,zOm,zS1 C,zSi,a1,a2⟩
end YA
namespace YB
open YM YF P1 Y1 Y6 Y9 Y10 YX YZ YA
section
variable {es:IEnv}{mu:Mu}{b xb:Nat}
def qq(ts:TS)(es:List (tM×Bool)):Nat:=es.length+ts.sA.length+3*ts.sS.length+1
def renI(ts:TS)(es:List (tM×Bool))(env:IEnv)(nm:tM)(body:Bool)(s:ISt):(IEnv×tM)×ISt:=
 if body=true\/means ts nm≠[] then
  ((setK nm ⟨none,0,vN (zy ts es (qq ts es) s.last)⟩ (delK nm env),vN (zy ts es (qq ts es) s.last)),⟨zy ts es (qq ts es) s.last,s.sM⟩)
 else ((delK nm env,nm),s)
theorem Zt{g I}[DecidableEq g]{k v}:∀{es},(es.map Prod.fst).Nodup->∀{x:g×I},x∈setK k v es↔x=(k,v)\/(x∈es/\x.1≠k)
 | [],_,x=>by simp[setK]
 |e :: es,h,x=>by
  rw[zS,List.nodup_cons]at h;unfold setK;by_cases i:k=e.1
  .rw [if_pos i,qw,qw]
   constructor
   .grind
   grind
  .rw [if_neg i,qw,qw,Zt h.2]
   constructor
   .grind
   grind
theorem v7{g m i}(h:g i=true):(cutM g m 0)[i]?=m[i]?:=by
 simp_all[jF,yd,if_true]
theorem qoM{x}:x∈encK aS eIV es↔∃ y,y∈es/\(aS y.1,eIV y.2)=x:=qm
theorem KU(h:(es.map Prod.fst).Nodup):((encK aS eIV es).map Prod.fst).Nodup:=by
 have e:(encK aS eIV es).map Prod.fst=(es.map Prod.fst).map aS:=by simp[encK]
 grind
theorem qoN{fs}(g:mu[b]?=some (.md (encK aS eIV es)))(i:(es.map Prod.fst).Nodup)(j:(fs.map Prod.fst).Nodup)(o:∀ x,x∈es↔x∈fs):Rd mu (.mp b) (eEnv fs):=by
 refine Rd.mds g (KU i) (KU j) (fun x=>?_) (fun x l=>?_)
 .grind
 .obtain ⟨y,_,rfl⟩:=qoM.1 l
  grind [HF.sc,ql6]
theorem updE(i:mu[b]?=some (.mp (encK aS eIV es)))(nm v) :
  jQ qb mu 141 (.mp b) (aS nm) (eIV v)=some (mu.set b (.mp (encK aS eIV (setK nm v es)))):=
 keyS.update (et:=207) (t:=141) zSi (mu:=mu) (b:=b) (venc:=eIV) (es:=es) i (k:=nm) (v:=v) trivial (fun _ _=>trivial)
theorem qb1(i:mu[b]?=some (.md (encK aS eIV es)))(nm v) :
  jQ qb mu 141 (.mp b) (aS nm) (eIV v)=some (mu.set b (.md (encK aS eIV (setK nm v es)))):=
 keyS.updateD (et:=207) (t:=141) zSi (mu:=mu) (b:=b) (venc:=eIV) (es:=es) i (k:=nm) (v:=v) trivial (fun _ _=>trivial)
structure But (xb:Nat) (mu m:Mu):Prop where
 len:mu.length<=m.length
 same:∀ i,i<mu.length->i≠xb->m[i]?=mu[i]?
theorem But.trans{a b c}(h:But xb a b)(k:But xb b c):But xb a c:=⟨zL h.len k.len,fun i g j=>(k.same i (Nat.lt_of_lt_of_le g h.len) j).trans (h.same i g j)⟩
theorem But.app(xb mu l):But xb mu (mu++l):=⟨zSp,fun i g _=>qM g⟩
theorem cB(xb mu c):But xb mu (mu.set xb c):=⟨zSp,fun i j g=>yA (fun e=>g e.symm)⟩
theorem But.setN{m}(h:But xb mu m){j}(o:mu.length<=j)(c):But xb mu (m.set j c):=⟨by simpa using h.len,fun i g l=>by rw[zGl];exact h.same i g l⟩
theorem But.cut{m}(h:But xb mu m){g}(l:∀ i,i<mu.length->g i=true):But xb mu (cutM g m 0):=⟨by rw[jO];exact h.len,fun i j o=>by rw[v7 (l i j)];exact h.same i j o⟩
theorem qoO(a):(aArg a).one=true:=by cases a<;>rfl
theorem qoP(ts)(h:okTS ts)(s:ISt)(es)(hs:0<=s.last/\s.last+(qq ts es:Nat)<=1000000000)(tb)(aa:∃ j,1<=j/\j<=qq ts es/\yG ts es (vN (s.last+j))=true)(env)(hk:(env.map Prod.fst).Nodup)(nm body)
  {mu} {xb} (hx:mu[xb]?=some (.arr (cIn ts tb s))) (ht:mu[tb]?=some (.mp (eSet es))) :
  qC qb 122 [.ptr xb 0,eEnv env,aS nm,aB body] mu fun e m=>e = .ret (.tup [eEnv (renI ts es env nm body s).1.1,aS (renI ts es env nm body s).1.2])/\But xb mu m/\m[xb]?=some (.arr (cIn ts tb (renI ts es env nm body s).2)):=by
 refine fH ?_;refine qSW call122 func122 rfl {} ?_;have az:xb<mu.length:=(qj.1 hx).1;have ah:tb<mu.length:=(qj.1 ht).1;have ai:tb≠xb:=fun e=>by grind
 simp[go_sem];obtain⟨B,hB⟩:∃ B,B=encK aS eIV env:=⟨_,rfl⟩;have b0:B.length=env.length:=by rw[hB];simp
 rw[<-hB];refine qk.seen env.length (fun seen U=>U.tm 0 = .ptr xb 0/\U.tm 2=aS nm/\U.tm 3=aB body/\U.tm 10 = .mp mu.length/\U.tm 16 = .ptr (mu.length+1) 0/\But xb mu U.mu/\mu.length+1<U.mu.length/\U.mu[xb]?=mu[xb]?/\U.mu[mu.length+1]?=some (.it B seen) /\
  ∃ o:IEnv,U.mu[mu.length]?=some (.mp (encK aS eIV o))/\(o.map Prod.fst).Nodup/\∀ x,x∈o↔∃ i,i∈seen/\env[i]?=some x) ?_ ?_
 .simp_all [go_sem,But.app,qM]
 .rintro seen U b1 b2 ⟨e0,e2,e3,p,a5,R,hl,aj,ak,o,ab,C,I⟩
  simp[go_sem,a5];refine⟨mu.length+1,B,seen,rfl,ak,fun i e hi al=>?_,fun ax=>?_⟩
  .have J:∃ y,env[i]?=some y/\e=(aS y.1,eIV y.2):=by
    rw[hB,zi,jK]at hi;obtain⟨y,J,rfl⟩:=hi
    grind
   obtain⟨⟨k,va,vz,vn⟩,J,rfl⟩:=J;have an:i<env.length:=(qj.1 J).1;have a6:∀(c:Cell)(l:List Cell),(U.mu.set (mu.length+1) c++l)[mu.length]?=some (.mp (encK aS eIV o)):=fun c l=>by
    grind
   have hu:=fun c l=>updE (a6 c l) k ⟨va,vz,vn⟩
   simp[go_sem,p,a5,hi,hl,qoO];refine tT _ (hu _ _) ?_;generalize hM:List.set (U.mu.set (mu.length+1) (Cell.it B (seen++[i]))++[Cell.arr [aArg va,aI vz,aS vn]]) mu.length (.mp (encK aS eIV (setK k ⟨va,vz,vn⟩ o)))=M;have b3:M.length=U.mu.length+1:=by rw[<-hM];simp
   have ao:∀ j,j<U.mu.length->j≠mu.length->j≠mu.length+1->M[j]?=U.mu[j]?:=fun j h1 h2 h3=>by
    grind
   have aq:M[mu.length]?=some (.mp (encK aS eIV (setK k ⟨va,vz,vn⟩ o))):=by
    grind
   have b4:M[mu.length+1]?=some (.it B (seen++[i])):=by
    grind
   have a7:∀ v,(k,v)∈o->False:=fun v hm=>by
    obtain⟨j,P,he⟩:=(I _).1 hm;have h1:(env.map Prod.fst)[j]?=some k:=by rw[zi,he];rfl
    have h2:(env.map Prod.fst)[i]?=some k:=by rw[zi,J];rfl
    have b5:j<(env.map Prod.fst).length:=(qj.1 h1).1
    grind [List.getElem?_inj]
   simp[go_sem];refine⟨i,an,al,aA ?_⟩;refine⟨zS1 e0,zS1 e2,zS1 e3,zS1 p,zS1 a5,?_,by grind [qB],?_,by simp[go_sem, *],_,zVs aq,wh C,fun x v=>?_⟩
   .simp only[go_sem,qB]
    exact⟨zOm,fun j P hn=>by rw[ao j zOm zOm zOm];exact R.same j P hn⟩
   .grind [qB]
   .rw [Zt C,I]
    constructor
    .rintro (e|⟨⟨j,P,he⟩,_⟩)
     .exact ⟨i,zSp,by rw[J,e]⟩
     .exact ⟨j,zP1 P,he⟩
    .rintro ⟨j,P,he⟩
     rcases qJ.1 P with P|P
     .refine .inr ⟨⟨j,P,he⟩,fun e=>?_⟩
      simp only at e;subst e;exact a7 v ((I _).2 ⟨j,P,he⟩)
     .rw [qT]at P
      subst P;rw[J]at he;exact .inl (Option.some.inj he).symm
  .simp [go_sem,e2,p]
   have ar:∀ x,x∈o↔x∈env:=fun x=>by
    grind [qZ,List.mem_iff_getElem?,qj]
   refine keyS.delete (et:=207) (t:=141) zSi ab trivial (fun _ _=>trivial) ?_;have T:=ZP (k:=nm) C;have a8:∀ x,x∈delK nm o↔x∈delK nm env:=fun x=>by grind [Xu]
   have ad:mu.length<U.mu.length:=zOm;have au:∀ c,(U.mu.set mu.length c)[xb]?=some (.arr (cIn ts tb s)):=fun c=>by rw[zGl,aj];exact hx
   have av:∀ c,(U.mu.set mu.length c)[tb]?=some (.mp (eSet es)):=fun c=>by rw[zGl,R.same tb ah ai];exact ht
   have aw:∀ c,But xb mu (U.mu.set mu.length c):=fun c=>R.setN (qr _) c
   have hD:∀ c,(U.mu.set mu.length c)[mu.length]?=some c:=fun c=>qL ad
   generalize hM:U.mu.set mu.length (.md (encK aS eIV (delK nm o)))=M;have a0:M[xb]?=some (.arr (cIn ts tb s)):=by rw[<-hM];exact au _
   have ae:M[tb]?=some (.mp (eSet es)):=by rw[<-hM];exact av _
   have a9:But xb mu M:=by grind
   have a1:M[mu.length]?=some (.md (encK aS eIV (delK nm o))):=by grind
   have af:mu.length<M.length:=(qj.1 a1).1;have fin:∀(m:Mu)(a2 fs:IEnv)(a3:tM)(s1:ISt),But xb mu m->m[mu.length]?=some (.md (encK aS eIV a2))->(a2.map Prod.fst).Nodup->(fs.map Prod.fst).Nodup->(∀ x,x∈a2↔x∈fs)->m[xb]?=some (.arr (cIn ts tb s1))->((fs,a3),s1)=renI ts es env nm body s ->
     ∃(g:Nat->Bool) (x:AV),Gv m g (.tup [.mp mu.length,aS a3]) x/\x = .tup [eEnv (renI ts es env nm body s).1.1,aS (renI ts es env nm body s).1.2]/\But xb mu (cutM (fun i=>!g i) m 0)/\(cutM (fun i=>!g i) m 0)[xb]?=some (.arr (cIn ts tb (renI ts es env nm body s).2)):=by
    intro m a2 fs a3 s1 hb hd n1 n2 hm b6 e;rw[<-e];refine⟨fun i=>i == mu.length,.tup [eEnv fs,aS a3],.rd _ _ (.tup _ _ rfl fun k x y hx J=>?_),rfl,hb.cut fun i hi=>zSo,?_⟩
    .match k with
     | 0 =>
      simp at hx J;subst hx;subst J;exact qoN (by rw[v7 zSp];exact hd) n1 n2 hm
     | 1 =>
      simp at hx J;subst hx;subst J;exact .zsc _
     |k+2=>simp at hx
    grind [v7]
   have ay:∀(b7:St)(K:qW->St->Prop),True:=fun _ _=>trivial
   by_cases hb:body=true
   .subst hb
    simp[go_sem,e0,e3];refine fQ (qb0 ts h s (qq ts es) hs tb es aa a0 ae) ?_ (by rintro r m ⟨e,_⟩;cases e);rintro r m ⟨e,rfl⟩;cases e;have hu:=qb1 (mu:=M.set xb (.arr (cIn ts tb ⟨zy ts es (qq ts es) s.last,s.sM⟩))) (b:=mu.length) (by rw[zGl];exact a1) nm ⟨none,0,vN (zy ts es (qq ts es) s.last)⟩;simp[go_sem,e2,p];refine tT _ hu ?_;simp[go_sem,p];refine(fin _ _ _ _ ⟨zy ts es (qq ts es) s.last,s.sM⟩ ((a9.trans (cB xb M _)).setN (qr _) _) (qL (zUs af)) (wh T) (wh (ZP hk)) (fun x=>by rw[Zt T,Zt (ZP hk),a8]) (by rw[zGl,qL zOm];rfl) ?_);simp[renI]
   .have hb:body=false:=by simpa using hb
    subst hb;simp[go_sem,e0,e2,e3,a0];refine tK (Ki ts h nm) (.zk (zm ts) (.zs .nil)) ?_;by_cases a4:means ts nm=[]
    .simp [go_sem,e2,p,a0,a4]
     refine(fin M _ _ _ _ a9 a1 T (ZP hk) a8 a0 ?_);simp[renI,a4]
    .have ag:0<(means ts nm).length:=List.length_pos_iff.2 a4
     simp[go_sem,e0,ag];refine fQ (qb0 ts h s (qq ts es) hs tb es aa a0 ae) ?_ (by rintro r m ⟨e,_⟩;cases e);rintro r m ⟨e,rfl⟩;cases e;have hu:=qb1 (mu:=M.set xb (.arr (cIn ts tb ⟨zy ts es (qq ts es) s.last,s.sM⟩))) (b:=mu.length) (by rw[zGl];exact a1) nm ⟨none,0,vN (zy ts es (qq ts es) s.last)⟩;simp[go_sem,e2,p];refine tT _ hu ?_;simp[go_sem,p];refine(fin _ _ _ _ ⟨zy ts es (qq ts es) s.last,s.sM⟩ ((a9.trans (cB xb M _)).setN (qr _) _) (qL (zUs af)) (wh T) (wh (ZP hk)) (fun x=>by rw[Zt T,Zt (ZP hk),a8]) (by rw[zGl,qL zOm];rfl) ?_);simp[renI,a4]
end
end YB
namespace Q9
open Y1
def qb2(nm:tM)(p:Int):Nd := .mk 1 nm 0 [] p
end Q9
namespace PA
open P1 P2 Y1 Y2 Y9 Y15 Y16 Q6
section
variable {inn:Bool}{c c':Ck}{s s':Scp}
def wF(nm:tM)(n:Nd):Prop:=anyN (fun n=>decide (n.name=nm)) n=true
theorem qb3{p}:∀{ks},um p ks=true↔∃ k,k∈ks/\anyN p k=true
 | []=>by simp[um]
 |k :: ks=>by
  simp only[um,wU,qb3 (ks:=ks),qw];constructor
  .rintro (h|⟨x,g,h⟩)
   .exact ⟨k,.inl rfl,h⟩
   .exact ⟨x,.inr g,h⟩
  .rintro ⟨x,rfl|g,h⟩
   .exact .inl h
   .exact .inr ⟨x,g,h⟩
theorem qoQ(n):wF n.name n:=by
 unfold wF;rw[UP];simp
theorem qoR{n k nm}(g:k∈n.sD)(h:wF nm k):wF nm n:=by
 unfold wF at h⊢;rw[UP,wU]
 grind [qb3]
def lookS(nm:tM)(s:Scp):Option Kd:=(jo nm s).head?.map Prod.snd
theorem qoS(nm):lookS nm []=none:=rfl
theorem Zu(nm v)(s:Scp):lookS nm (v :: s)=if v.1=nm then some v.2 else lookS nm s:=by
 grind [lookS,jo]
theorem Z2(c s nm pos):jw c s nm pos=match lookS nm s with
  |some k => .ok (some k)
  |none=>match means c.ts nm with
   | [] => .error (40,pos)
   | [k] => .ok (some k)
   |_ => .error (44,pos):=by
 grind [jw,lookS,jo]
theorem qb4{n n'}(j:n'.op=n.op)(l:n'.name=n.name)(r:n'.n=n.n)(t:n'.pos=n.pos)
  (C:zY c' n.op n.name=zY c n.op n.name) (J:n.op=1->jw c s n.name n.pos=jw c' s' n.name n.pos) (o:c'.ts.sT=c.ts.sT) (g:zu c' n.name=zu c n.name)
  (p:c'.ts.sS.length=c.ts.sS.length) (i:n'.sD.length=n.sD.length)
  (P:n.op=47->∀ ps,yb c s n.pos ps n.sD=yb c' s' n.pos ps n'.sD)
  (hB:(n.op=15\/n.op=45\/n.op=46)->∀ inn,yh c s inn n.name n.pos n.sD=yh c' s' inn n.name n.pos n'.sD)
  (I:¬n.op=1->¬n.op=47->¬(n.op=15\/n.op=45\/n.op=46)->∀ inn,zd c s inn n.sD=zd c' s' inn n'.sD):exam c s inn n=exam c' s' inn n':=by
 rw[je,je,j,l,r,t,C,o,g,p,i];by_cases a:(inn&&zY c n.op n.name)=true
 .rw [if_pos a,if_pos a]
 rw[if_neg a,if_neg a];by_cases b:n.op=1
 .grind
 rw[if_neg b,if_neg b];by_cases d:n.op=47
 .simp_all
 rw[if_neg d,if_neg d];by_cases e:n.op=15\/n.op=45\/n.op=46
 .rw [if_pos e,if_pos e];exact hB e _
 rw[if_neg e,if_neg e,I b d e]
theorem qb5(f):∀{ks},(∀ k,k∈ks->exam c s inn k=exam c' s' inn (f k))->zd c s inn ks=zd c' s' inn (ks.map f)
 | [],_=>rfl
 |k :: ks,h=>by
  simp only[zS,zd];rw[h k (zj ..),qb5 f fun g i=>h g (za _ i)]
theorem qb6{pos}(f):∀{ks ps},(∀ k,k∈ks->exam c s true k=exam c' s' true (f k))->yb c s pos ps ks=yb c' s' pos ps (ks.map f)
 | [],ps,_=>by cases ps<;>rfl
 |k :: ks,[],_=>rfl
 |k :: ks,p :: ps,h=>by
  simp only[zS,yb];rw[h k (zj ..),qb6 f (ps:=ps) fun g i=>h g (za _ i)]
theorem UY{ks}(h:∀ k,k∈ks->exam c s inn k=exam c' s' inn k):zd c s inn ks=zd c' s' inn ks:=by
 have:=qb5 (c:=c) (c':=c') (s:=s) (s':=s') (inn:=inn) id (ks:=ks) h
 rwa[List.map_id]at this
theorem qb7{pos ks ps}(h:∀ k,k∈ks->exam c s true k=exam c' s' true k):yb c s pos ps ks=yb c' s' pos ps ks:=by
 have:=qb6 (c:=c) (c':=c') (s:=s) (s':=s') (pos:=pos) id (ks:=ks) (ps:=ps) h
 rwa[List.map_id]at this
structure wG (c c':Ck):Prop where
 sT:c'.ts.sT=c.ts.sT
 sS:c'.ts.sS=c.ts.sS
 sA:c'.ts.sA=c.ts.sA
 calls:c'.calls=c.calls
 timed:c'.timed=c.timed
theorem wG.refl(c):wG c c:=⟨rfl,rfl,rfl,rfl,rfl⟩
theorem wG.callee(h:wG c c')(nm):zu c' nm=zu c nm:=by
 unfold zu;rw[h.sT,h.calls]
theorem wG.time(h:wG c c')(op nm):zY c' op nm=zY c op nm:=by
 unfold zY;rw[h.callee,h.timed]
theorem wG.means(h:wG c c')(nm):means c'.ts nm=means c.ts nm:=by
 unfold P1.means;rw[h.sA,h.sS]
theorem qb8(j:wG c c'):∀ m n s s' inn,szN n<=m->(∀ nm,wF nm n->lookS nm s=lookS nm s')->exam c s inn n=exam c' s' inn n
 | 0,n,_,_,_,o,_=>by obtain⟨op,nm,i,ks,p⟩:=n;simp[szN]at o
 |m+1,n,s,s',inn,o,h=>by
  have l:∀ k,k∈n.sD->∀(s s':Scp)(inn:Bool),(∀ nm,wF nm k->lookS nm s=lookS nm s')->exam c s inn k=exam c' s' inn k:=fun k l s s' inn t =>
   qb8 j m k s s' inn (zW1 (yr l)) t
  have r:∀ k,k∈n.sD->∀ nm,wF nm k->lookS nm s=lookS nm s':=fun k l nm C=>h nm (qoR l C)
  refine qb4 rfl rfl rfl rfl (j.time _ _) (fun _=>?_) j.sT (j.callee _) (by rw[j.sS]) rfl (fun _ J=>qb7 fun k g=>l k g s s' true (r k g)) (fun _ inn=>?_) (fun _ _ _ inn=>UY fun k g=>l k g s s' inn (r k g))
  .rw [Z2,Z2,h _ (qoQ n),j.means]
  .cases I:n.sD with
   |nil=>rfl
   |cons k ks =>
    grind [ks,yh,zj,zd,UY,za,Zu]
def wf(ts:TS)(g:List (tM×Nd)):TS:=⟨ts.sS,ts.sA,ts.sT,g⟩
theorem qoT{I}(g)(l:List I)(i):(repL g l)[i]?=(l[i]?).map fun x=>(l.take i).any fun y=>g x y:=by
 grind [qaB,qz,List.getElem?_eq_none,Qm]
theorem qb9{I}(g)(l:List I)(i):repB g l i=match l[i]? with|some x=>[(l.take i).any fun y=>g x y] | none=>[]:=by
 unfold repB;rw[List.take_add_one,qoT,List.drop_append];by_cases h:i<l.length
 .rw [qz h,vO,Qm,Nat.min_eq_left zOm,List.drop_of_length_le zSo]
  simp
 grind
def binB(op:Int):Bool:=decide (op=15)||decide (op=45)||decide (op=46)
end
end PA
namespace YC
open P1 Y1 YX YZ YA YB PA
section
variable {env:IEnv}{s:ISt}{es:List (tM×Bool)}{F:Nat}{ts:TS}
abbrev XR(I:Type):=Except Dg (I×ISt)
def ju(E:Nd->ISt->XR (Nd×Int)):List (tM×Int)->List Nd->IEnv->ISt->XR IEnv
 |p :: g,k :: ks,own,s=>match E k s with
  | .error e => .error e
  | .ok ((i,m),j)=>ju E g ks (setK p.1 ⟨some i,m,⟨#[]⟩⟩ own) j
 |_,_,own,s => .ok (own,s)
def yN(E:IEnv->Nd->ISt->XR (Nd×Int))(R:IEnv->tM->ISt->(IEnv×tM)×ISt)(bin:Bool):Nat->IEnv->tM->List Nd->ISt->XR (tM×List Nd×Int)
 |_,_,o,[],s => .ok ((o,[],0),s)
 |i,env,o,k :: ks,s =>
  let r:=if bin=true/\i=1 then R env o s else ((env,o),s)
  match E r.1.1 k r.2 with
  | .error e => .error e
  | .ok ((p,m),t)=>match yN E R bin (i+1) r.1.1 r.1.2 ks t with
   | .error e => .error e
   | .ok ((g,j,C),l) => .ok ((g,p :: j,m+C),l)
def v8{I i:Type}(q:XR I)(g:I->ISt->XR i):XR i:=
 match q with
 | .error e => .error e
 | .ok (a,s)=>g a s
theorem Jc{I i q}{g:I->ISt->XR i}{r}(h:v8 q g = .ok r):∃ a s,q = .ok (a,s)/\g a s = .ok r:=by
 unfold v8 at h;split at h
 .cases h
 .exact ⟨_,_,rfl,h⟩
def expI(ts:TS)(es:List (tM×Bool)):Nat->IEnv->Nd->Bool->ISt->XR (Nd×Int)
 | 0,_,_,_,_ => .error (2,0)
 |f+1,env,n,g,s =>
  if s.sM+1<=4000 then
   if n.op=1 then vY env n (payS 1 s)
   else if n.op=47 then match ts.sT.find? fun p=>decide (p.name=n.name) with
    |none => .error (2,0)
    |some p=>v8 (ju (fun k s=>expI ts es f env k g s) p.params n.sD [] (payS 1 s)) fun own i=>expI ts es f own p.body true i
   else v8 (yN (fun env k s=>expI ts es f env k g s) (fun env o s=>renI ts es env o g s) (binB n.op) 0 env n.name n.sD (payS 1 s)) fun r i => .ok ((.mk n.op r.1 n.n r.2.1 n.pos,1+r.2.2),i)
  else .error (2,0)
def yO(ts:TS)(n:Nd):Prop:=∀ x,x∈preN n->x.op=47->∃ p,(ts.sT.find? fun p=>decide (p.name=x.name))=some p/\p.params.length=x.sD.length
theorem qoU{ks k x}(g:k∈ks)(i:x∈preN k):x∈zx ks:=by
 induction ks with
 |nil=>simp at g
 |cons a l j =>
  simp only[zx,qJ];rcases qw.1 g with rfl|g
  .exact .inl i
  grind
theorem KV{n k x}(g:k∈n.sD)(i:x∈preN k):x∈preN n:=by
 grind [wE,za,qoU]
theorem uq(n):n∈preN n:=by rw[wE];exact zj ..
theorem yO.kid{n k}(h:yO ts n)(g:k∈n.sD):yO ts k:=fun x i=>h x (KV g i)
def pot(F:Nat)(s:ISt):Int:=s.sM*F-s.last
structure StOk (F:Nat) (s:ISt):Prop where
 l0:0<=s.last
 c0:0<=s.sM
 c1:s.sM<=4000
 p:0<=pot F s
theorem StOk.last(h:StOk F s):s.last<=4000*F:=by
 have g:s.sM*F<=4000*F:=Int.mul_le_mul_of_nonneg_right h.c1 zOm;have:=h.p
 grind [pot]
structure zw (env:IEnv):Prop where
 nd:(env.map Prod.fst).Nodup
 sz:∀ e,e∈env->0<=e.2.size/\e.2.size<=4000
theorem zw.nil:zw []:=⟨zSp,fun e g=>by simp at g⟩
theorem zw.set(h:zw env){k v}(hv:0<=v.size/\v.size<=4000):zw (setK k v env):=
 ⟨wh h.nd,fun e g=>by
  rcases (Zt h.nd).1 g with rfl|⟨g,_⟩
  .exact hv
  .exact h.sz e g⟩
theorem zw.del(h:zw env){k}:zw (delK k env):=⟨ZP h.nd,fun e g=>h.sz e ((Xu h.nd).1 g).1⟩
theorem Vi{nm body}(h:zw env):zw (renI ts es env nm body s).1.1:=by
 unfold renI;split
 .exact h.del.set ⟨zSp,zSp⟩
 .exact h.del
theorem KW(ts es):∀ f k,k<zy ts es f k/\zy ts es f k<=k+f+1
 | 0,k=>by grind [zy]
 |f+1,k=>by
  simp only[zy];have:=KW ts es f (k+1);omega
theorem KX{ts es}:∀{f k},(∃ j:Nat,1<=j/\j<=f/\yG ts es (vN (k+j))=true)->zy ts es f k<=k+f
 | 0,k,⟨j,g,i,_⟩=>zOm
 |f+1,k,⟨j,g,i,l⟩=>by
  simp only[zy];split
  .omega
  .rename_i o
   have p:j≠1:=fun e=>by grind
   have:=KX (ts:=ts) (es:=es) (f:=f) (k:=k+1) ⟨j-1,zOm,zOm,by grind⟩;omega
def Free(ts:TS)(es:List (tM×Bool)):Prop:=∀ l:Int,0<=l->∃ j:Nat,1<=j/\j<=qq ts es/\yG ts es (vN (l+j))=true
theorem Vj(g:Free ts es){env nm body s}(i:0<=s.last):0<=(renI ts es env nm body s).2.last/\(renI ts es env nm body s).2.last<=s.last+(qq ts es:Nat)/\(renI ts es env nm body s).2.sM=s.sM:=by
 unfold renI;split
 .have l:=KW ts es (qq ts es) s.last
  have j:=KX (g s.last i);refine⟨?_,j,rfl⟩
  grind
 .exact ⟨i,by grind,rfl⟩
structure Gos (F:Nat) (s s':ISt) (z:Int):Prop where
 l0:0<=s'.last
 c1:s'.sM<=4000
 z0:0<=z
 cz:s.sM+z<=s'.sM
 p:pot F s<=pot F s'
theorem Gos.ok{s' z}(g:Gos F s s' z)(h:StOk F s):StOk F s':=⟨g.l0,by have:=g.cz;have:=g.z0;have:=h.c0;omega,g.c1,zW2 g.p h.p⟩
theorem Z3(F s n):pot F (payS n s)=pot F s+n*F:=by
 grind [pot,payS,Int.add_mul]
theorem Qr(h:StOk F s){n}(g:0<=n)(i:s.sM+n<=4000):Gos F s (payS n s) n:=
 ⟨h.l0,i,g,vM _,by rw[Z3];have:0<=n*(F:Int):=Int.mul_nonneg g zOm;omega⟩
theorem qoV{n n' s' z}(h:StOk F s)(l:zw env)(t:s.sM+1<=4000)(e:vY env n (payS 1 s) = .ok ((n',z),s')):Gos F s s' z:=by
 have j:=Qr h (n:=1) zOm t;unfold vY at e;cases o:getK n.name env with
 |none=>grind
 |some v =>
  rw[o]at e;have C:=l.sz _ ((Ze l.nd).1 o);obtain⟨I,r,P⟩:=v;cases I with
  |none=>cases e;exact j
  |some a =>
   simp only at e;split at e
   .rename_i J
    have i:0<=r/\r<=4000:=C;cases e;have g:=Qr (j.ok h) i.1 J;exact⟨g.l0,g.c1,i.1,zW2 g.cz j.cz,zW2 g.p j.p⟩
   .cases e
theorem KY{E}:∀{ks ps own i s s'},(∀ k n' z s s',k∈ks->StOk F s->E k s = .ok ((n',z),s')->Gos F s s' z)->StOk F s->zw own ->
  ju E ps ks own s = .ok (i,s')->zw i/\Gos F s s' 0
 | [],ps,own,i,s,s',_,h,j,e=>by
  have e:Except.ok (own,s)=(Except.ok (i,s'):XR IEnv):=by cases ps<;>exact e
  cases e;exact⟨j,h.l0,h.c1,zOm,zOm,vM _⟩
 |k :: ks,[],own,i,s,s',_,h,j,e=>by
  cases e;exact⟨j,h.l0,h.c1,zOm,zOm,vM _⟩
 |k :: ks,p :: ps,own,i,s,s',o,h,j,e=>by
  simp only[ju]at e;split at e
  .cases e
  .rename_i r m s1 t
   have g:=o k r m s s1 (zj ..) h t;have C:m<=4000:=by have:=g.cz;have:=g.c1;have:=h.c0;omega
   obtain⟨I,l⟩:=KY (fun k n' z s s' J=>o k n' z s s' (za _ J)) (g.ok h) (j.set (v:=⟨some r,m,⟨#[]⟩⟩) ⟨g.z0,C⟩) e;exact⟨I,l.l0,l.c1,zOm,by have:=g.cz;have:=g.z0;have:=l.cz;omega,zW2 g.p l.p⟩
def dueN(F:Nat)(bin:Bool)(i:Nat):Int:=if bin=true/\i<=1 then F else 0
theorem Z4(F bin i):0<=dueN F bin i:=by unfold dueN;split<;>omega
theorem UZ{bin i}(h:¬(bin=true/\i=1)):dueN F bin i=dueN F bin (i+1):=by
 unfold dueN;by_cases g:bin=true
 .by_cases l:i=1
  .grind
  .by_cases j:i<=1
   .rw [if_pos ⟨g,j⟩,if_pos ⟨g,zOm⟩]
   omega
 grind
theorem qcA{E R bin}(P:∀ env nm s,0<=s.last->zw env->zw (R env nm s).1.1/\0<=(R env nm s).2.last/\(R env nm s).2.last<=s.last+(F:Int)/\(R env nm s).2.sM=s.sM) :
  ∀{ks i env nm j s s' l m},(∀ env k n' z s s',k∈ks->StOk F s->zw env->E env k s = .ok ((n',z),s')->Gos F s s' z)->0<=s.last->0<=s.sM->s.sM<=4000->dueN F bin i<=pot F s->zw env ->
  yN E R bin i env nm ks s = .ok ((j,l,m),s')->0<=s'.last/\s'.sM<=4000/\0<=m/\s.sM+m<=s'.sM/\pot F s-dueN F bin i<=pot F s'
 | [],i,env,nm,j,s,s',l,m,_,T,c0,c1,hp,U,e=>by
  cases e;have:=Z4 F bin i;omega
 |k :: ks,i,env,nm,j,s,s',l,m,hE,T,c0,c1,hp,U,e=>by
  simp only[yN]at e;obtain⟨r,t⟩:∃ r,r=if bin=true/\i=1 then R env nm s else ((env,nm),s):=⟨_,rfl⟩
  rw[<-t]at e;have I:zw r.1.1/\0<=r.2.last/\r.2.sM=s.sM/\dueN F bin (i+1)<=pot F r.2/\pot F s-dueN F bin i<=pot F r.2-dueN F bin (i+1):=by
   by_cases C:bin=true/\i=1
   .rw [if_pos C]at t
    obtain⟨a1,a2,a3,a4⟩:=P env nm s T U;have d1:dueN F bin i=F:=if_pos ⟨C.1,zOm⟩;have d2:dueN F bin (i+1)=0:=zIn
    grind [pot]
   .rw [if_neg C]at t
    subst t;have d':dueN F bin i=dueN F bin (i+1)\/(bin=true/\i=1):=by
     unfold dueN;by_cases o:bin=true
     .by_cases h1:i=1
      .grind
      .left
       by_cases h0:i<=1
       .rw [if_pos ⟨o,h0⟩,if_pos ⟨o,zOm⟩]
       omega
     grind
    have a0:dueN F bin i=dueN F bin (i+1):=d'.elim id fun h=>absurd h C
    grind
  obtain⟨b1,b2,b3,b4,b5⟩:=I;split at e
  .cases e
  .rename_i k' m1 s1 h1
   have J:StOk F r.2:=⟨b2,zOm,zOm,zW1 (Z4 F bin (i+1))⟩;have g:=hE r.1.1 k k' m1 r.2 s1 (zj ..) J b1 h1;split at e
   .cases e
   .rename_i a5 a6 m2 s2 h2
    have:=qcA P (fun env k n' z s s' hk=>hE env k n' z s s' (za _ hk)) g.l0 (zW2 g.cz g.z0) g.c1 (zW1 g.p) b1 h2;obtain⟨q1,q2,q3,q4,q5⟩:=this;cases e;have:=g.cz;have:=g.z0;have:=g.p;omega
theorem jV(ts){es}(g:Free ts es):∀(f){env n n' body s s' z},StOk (qq ts es) s->zw env->expI ts es f env n body s = .ok ((n',z),s')->Gos (qq ts es) s s' z
 | 0,_,_,_,_,_,_,_,_,_,e=>by cases e
 |f+1,env,n,n',body,s,s',z,h,P,e=>by
  simp only[expI]at e;split at e
  .rename_i R
   have i:=Qr h (n:=1) zOm R;split at e
   .grind [qoV]
   .split at e
    .split at e
     .cases e
     .rename_i p _
      .obtain ⟨own,s1,t,e⟩:=Jc e
       obtain⟨T,g1⟩:=KY (F:=qq ts es) (fun k n' z s s' _ C I=>jV ts g f C P I) (i.ok h) .nil t;have j:=jV ts g f (g1.ok (i.ok h)) T e;exact⟨j.l0,j.c1,j.z0,by have:=j.cz;have:=g1.cz;have:=i.cz;omega,by have:=j.p;have:=g1.p;have:=i.p;omega⟩
    ·.obtain ⟨⟨l,r,m⟩,s1,t,e⟩:=Jc e
      cases e;have U:dueN (qq ts es) (binB n.op) 0<=pot (qq ts es) (payS 1 s):=by
       rw[Z3];have:=h.p;grind [dueN]
      have:=qcA (F:=qq ts es) (fun env o s hl J=>⟨Vi J,Vj g hl⟩) (fun env k n' z s s' _ C J I=>jV ts g f C J I) i.l0 (by have:=(i.ok h).c0;exact this) i.c1 U P t;obtain⟨q1,q2,q3,q4,q5⟩:=this;have a0:dueN (qq ts es) (binB n.op) 0<=(qq ts es:Nat):=by grind [dueN]
      rw[Z3]at q5;have a1:0<=(l,r,m).snd.snd:=q3;have a2:(payS 1 s).sM+(l,r,m).snd.snd<=s'.sM:=q4;exact⟨q1,q2,zOm,zW1 i.cz,zOm⟩
  .cases e
end
end YC
namespace E6
end E6
end Go.Proofs.YtipbakanneogpaaGreatDoor
