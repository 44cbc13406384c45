/-
  Own library, part 6: an abstract reading of values and a calculus over it; contracts of functions; plain lemmas.
-/
import Derived.Lib.ItoaLen
import Derived.Handed
import Derived.WideKeyArgs
import Derived.ProofKit
import Derived.OpenShut
import Derived.JoinedCond
import Derived.KernelRfl
import Derived.Test.YtfednihcpihlgaaGreatDoorMe
set_option linter.unusedVariables false
set_option linter.unusedSimpArgs false
set_option maxRecDepth 100000
open Go renaming FuncId->us,Program->qf,TypeId->j1,World->j2,Value->j3,undef->wg
open Go.Proofs.Tryz renaming prog->qb
open List renaming getElem?_eq_some_iff->qg,mem_map->qi,getElem_mem->qn,range->qq,mem_cons->qt,getElem?_eq_getElem->qw,not_mem_nil->qF,getElem?_append_left->qG,mem_append->qH,getElem?_set_self->qI,take_length->qO,replicate->qS,mem_singleton->qT,mem_of_getElem?->qU,mem_cons_of_mem->qW,length_append->qX,map_append->q9,mem_cons_self->zd,getElem?_map->zf,drop_eq_getElem_cons->zm,append_assoc->zy,length_cons->zz,getD_eq_getElem?_getD->zC,getElem?_append_right->zE,append_nil->zF,length_map->zK,take_of_length_le->zO,map_cons->zT,mem_range->zW,drop_length->yh,getElem?_set_ne->yu,cons_append->yw,mem_append_left->jj,nodup_cons->jx,nil_append->vg,take_succ_eq_append_getElem->vu,foldl_append->vy,take_append_drop->vS,mem_of_mem_take->ui,mem_flatMap->uK,eq_nil_of_length_eq_zero->wD,flatten_cons->wE
open Go.IntKind renaming i64->qm
open Nat renaming le_refl->qo,le_trans->zt,zero_add->z7,le_of_ble_eq_true->vR
open Option.some renaming injEq->qr
open Bool renaming and_eq_true->qD,or_eq_true->uM
open Array renaming getD_eq_getD_getElem?->qV
open Option renaming map_eq_some_iff->jK
open List.Nodup renaming length_le_of_subset->jL
open Int renaming le_refl->vf
namespace Go.Proofs.YtfednihcpihlgaaGreatDoor
open Go Go.Ev Go.Proofs Tryz
namespace FD
open Y1 Y9 Q4 F2
theorem qmL{ks m}(h:∀ k,k∈ks->dN k<=m):dNs ks<=m:=by
 induction ks with
 |nil=>simp[dNs]
 |cons a l g =>
  simp only[dNs];have:=h a zSp;have:=g fun k i=>h k (zP1 i)
  omega
theorem m7:∀ m n g,szN n<=m->forN n g=true->(dN n:Int)<=g
 | 0,n,g,l,_=>by
  obtain⟨op,nm,i,ks,q⟩:=n;simp only[szN,Nd.mk.sizeOf_spec]at l;omega
 |m+1,n,g,l,h=>by
  rw[JY]at h;split at h
  .cases h
  .simp only[qD]at h
   have o:=X6 h.2.2;have:dNs n.sD<=(g-1).toNat:=qmL fun k j=>by
    have:=m7 m k (g-1) (zW1 (ym j)) (o k j);omega
   rw[mO];omega
theorem qmM{n}(h:ze n=true):dN n<=24:=by
 simp only[ze,qD]at h;have:=m7 (szN n) n 24 (qo _) h.2;omega
theorem m8:∀ x,(∀ a,a∈x->0<=a)->0<=sumI x:=fun x g=>by
 induction x with
 |nil=>simp[sumI]
 |cons a x i =>
  have o:=g a zSp;have j:=i fun b l=>g b (zP1 l)
  simp only[sumI,List.foldr_cons]at j⊢;omega
theorem qmN:∀ l i,(∀ a,a∈l->0<=a)->i<l.length->0<=gI l i/\0<=sumI (l.take i)/\sumI (l.take i)+gI l i<=sumI l:=fun l i h g=>by
 have e:sumI l=sumI (l.take (i+1))+sumI (l.drop (i+1)):=by rw[<-gH,vS]
 rw[uw l i g]at e;rw[uu g];have p:=m8 (l.drop (i+1)) fun a j=>h a (List.mem_of_mem_drop j)
 have o:=m8 (l.take i) fun a j=>h a (ui j)
 exact⟨h _ (qn g),o,zOm⟩
end FD
namespace GF
open E1 EO EQ EW F4 GD
abbrev rP(p:Int×Int):List AV:=[aI p.1,aI p.2]
abbrev lP(ps:List (Int×Int)):AV := .lst false (ps.map rP)
theorem J1(xs:List (Int×Int)):zc 2 (xs.map rP):=fun r g=>by
 obtain⟨n,_,rfl⟩:=qi.1 g;exact⟨rfl,rfl⟩
abbrev eBd(b:Bd):AV := .agg (cBd b)
theorem UE(b):∀ c,c∈cBd b->HF c:=by
 intro c g;simp at g;rcases g with rfl|rfl|rfl|rfl
 .exact HF.sc _
 .exact zh _
 .exact HF.sc _
 .exact zh _
theorem J2(b):HF (eBd b):=HF.agg (UE b)
theorem qmO(x):qd qb 99 [eBd x] (.fn (.func 147) [] [.ip (cBd x)]):=by
 refine qSU call99 func99 rfl ?_;refine .hf _ (HF.fn (fun c g=>by simp at g) (fun c g=>?_))
 grind [HF.ip,UE]
def vb(x:Bd):List Int:=x.up.ts.filter fun t=>!decide (t∈x.lo.ts)
theorem qmP{J:Type}(p)(l:List J)(k h)(g:p l[k]=true):(l.filter p)[((l.take k).filter p).length]?=some l[k]:=by
 have e:l=l.take k++l[k] :: l.drop (k+1):=by
  rw[<-zm h,vS]
 have i:l.filter p=(l.take k).filter p++l[k] :: (l.drop (k+1)).filter p:=by
  conv=>lhs;rw[e]
  rw[List.filter_append,List.filter_cons,if_pos g]
 rw[i,zE (qo _)];simp
theorem qmQ{J:Type}(p)(l:List J)(k h):((l.take (k+1)).filter p).length=((l.take k).filter p).length+(if p l[k]=true then 1 else 0):=by
 rw[List.take_add_one,qw h,List.filter_append];cases g:p l[k]<;>simp[g]
theorem qmR(x)(hl:x.up.ts.length<=1000000000)(R:x.lo.ts.length<=1000000000)(hs:x.lo.ts.Pairwise (·<=·)):y5 qb 147 [.ip (cBd x)] ((vb x).map fun t=>[aI t]):=by
 refine y5.of call147 fun i I Ix hS hX hY C h0=>?_
 refine qSW call147 func147 rfl {} ?_;simp[go_sem];refine tP (fun m U=>∃ k,m=x.up.ts.length-k/\k<=x.up.ts.length/\U.tm 0 = .yl i/\U.tm 1 = .ip (cBd x)/\U.tm 9=lI x.up.ts/\U.tm 10=aI x.up.ts.length/\U.tm 11=aI (k:Nat)/\I ((x.up.ts.take k).filter fun t=>!decide (t∈x.lo.ts)).length U.mu) x.up.ts.length ?_ ?_
 .exact ⟨0,zOm,zOm,zSi,zSi,zSi,zSi,zSi,zVs h0⟩
 rintro m U ⟨k,rfl,hk,T,e1,e9,o,p,P⟩;by_cases r:k<x.up.ts.length
 .simp [go_sem,e1,e9,o,p,r]
  refine tC (binU x.lo.ts x.up.ts[k] R hs) (.zk (zh _) (.zs .nil)) ?_;have g:=qmQ (fun t=>!decide (t∈x.lo.ts)) x.up.ts k r;by_cases l:x.up.ts[k]∈x.lo.ts
  .simp [go_sem,p,l]
   rw[if_neg (zUs l),Nat.add_zero]at g;refine Keep.loop (x.up.ts.length-(k+1)) zOm ⟨k+1,rfl,zOm,zS1 T,zS1 e1,zS1 e9,zS1 o,?_,?_⟩
   .simp [go_sem];exact zWr
   .rw [g];simpa[go_sem] using P
  .simp [go_sem,T,l]
   rw[if_pos (zUs l)]at g;have J:((vb x).map fun t=>[aI t])[((x.up.ts.take k).filter fun t=>!decide (t∈x.lo.ts)).length]?=some [aI x.up.ts[k]]:=by
    rw[zf,vb,qmP _ _ k r (zUs l)];rfl
   refine qc.yield (hY _ _ _ J P) ?_;rintro b j (⟨rfl,a0⟩|⟨rfl,a1⟩)
   .simp [go_sem,p]
    refine Keep.loop (x.up.ts.length-(k+1)) zOm ⟨k+1,rfl,zOm,zS1 T,zS1 e1,zS1 e9,zS1 o,?_,?_⟩
    .simp [go_sem];exact zWr
    .rw [g];simpa[go_sem] using a0
   .simp [go_sem]
    exact .inr a1
 .have a2:k=x.up.ts.length:=by omega
  subst a2;rw[qO]at P;simp[go_sem,o,p];exact .inl P
def yH(k:Nat)(x:Bd):List (Int×Int):=(vb x).map fun t=>((k:Int),t)
def qv:List Bd->Nat->List (Int×Int)
 | [],_=>[]
 |x :: l,k=>yH k x++qv l (k+1)
theorem m9:∀ l m k,qv (l++m) k=qv l k++qv m (k+l.length)
 | [],m,k=>by simp[qv]
 |x :: l,m,k=>by
  rw[yw,qv,qv,m9 l m (k+1),zy];have:k+1+l.length=k+(x :: l).length:=zSo;rw[this]
theorem qaA(l:List Bd)(k h):qv (l.take (k+1)) 0=qv (l.take k) 0++yH k l[k]:=by
 rw[List.take_add_one,qw h];show qv (l.take k++[l[k]]) 0=_;rw[m9];have:(l.take k).length=k:=zSo;rw[this,z7];simp[qv]
structure Qa (x:Bd):Prop where
 up:x.up.ts.length<=1000000
 lo:x.lo.ts.length<=1000000
 sorted:x.lo.ts.Pairwise (·<=·)
theorem J3:∀ l k,(∀ x,x∈l->Qa x)->(qv l k).length<=l.length*1000000
 | [],k,_=>by simp[qv]
 |x :: l,k,h=>by
  have i:=J3 l (k+1) (fun y g=>h y (zP1 g));have j:(yH k x).length<=1000000:=by
   rw[yH,zK];exact zt (List.length_filter_le _ _) (h x zSp).up
  simp only[qv,qX,zz];omega
theorem cD{mu av xs}(h:Own mu 2 av (xs.map rP)):Rd mu av (lP xs):=
 h.rd (J1 xs).ok fun r i c g=>by
  obtain⟨n,_,rfl⟩:=qi.1 i;simp at g;rcases g with rfl|rfl<;>exact HF.sc _
theorem qaB(l)(hl:l.length<=1000)(hb:∀ x,x∈l->Qa x):qd qb 52 [lBd l] (lP (qv l 0)):=by
 refine qSU call52 func52 rfl ?_;refine tP (fun m U=>∃ k I C,m=l.length-k/\k<=l.length/\U.tm 3 = .ptr 0 0/\U.tm 7=lBd l/\U.tm 8=aI l.length/\U.tm 9=aI (k:Nat)/\U.mu = .arr [I] :: C/\Own U.mu 2 I ((qv (l.take k) 0).map rP)/\qj I≠some 0) l.length ?_ ?_
 .refine ⟨0,.lst true [],[],zOm,zOm,zSi,zSi,zSi,zSi,zSi,?_,by simp[qj]⟩
  simp[go_sem,qv];exact .inl rfl
 rintro m U ⟨k,I,C,rfl,hk,e3,e7,e8,e9,hm,ho,aa⟩;by_cases T:k<l.length
 .have hx:=hb _ (qn T)
  have af:(qv (l.take (k+1)) 0).length<=1000000000:=by
   grind [J3,ui,Nat.mul_le_mul_right]
  have a0:=qaA l k T;rw[hm]at ho;have ab:qj I≠some (C.length+1):=fun h=>by have:=Own.lt ho h;simp at this
  simp[go_sem,e7,e8,e9,hm,T];refine fR (qmO l[k]) (.zk (J2 _) .nil) ?_;refine tD (qmR l[k] (zW1 hx.up) (zW1 hx.lo) hx.sorted) (fun j M=>∃ I o,M = .arr [I] :: o/\M[C.length+1]?=some (.arr [aI k])/\Own M 2 I ((qv (l.take k) 0++(yH k l[k]).take j).map rP)/\qj I≠some 0/\qj I≠some (C.length+1)) (fun _ _=>False) ?_ ?_ ?_ ?_ ?_ ?_
  .refine ⟨I,_,by simp only[qA,yw];rfl,zSi,?_,aa,ab⟩
   have:=Own.push ho [Cell.arr [aI k],Cell.arr (cBd l[k]),.dead];simp_all[go_sem]
  .rintro j M ⟨I,o,rfl,h1,h2,h3,h4⟩
   exact⟨I,o++[.dead],rfl,by grind,Own.push h2 _,h3,h4⟩
  .grind
  .rintro j x M hj ⟨I,o,rfl,h1,h2,h3,h4⟩
   rw[zf,jK]at hj;obtain⟨t,ht,rfl⟩:=hj;have ag:j<(vb l[k]).length:=(qg.1 ht).1;have ah:(yH k l[k]).take (j+1)=(yH k l[k]).take j++[((k:Int),t)]:=by
    rw[List.take_add_one];have:(yH k l[k])[j]?=some ((k:Int),t):=by rw[yH,zf,ht];rfl
    rw[this];rfl
   have ai:(qv (l.take k) 0++(yH k l[k]).take j).length<=1000000000:=by
    grind
   refine⟨rfl,?_⟩;have ad:=(qg.1 h1).1;have a3:=h1;simp at a3;simp[go_sem,e3,a3];refine qu.ownB (e:=113) (sz:=2) (bt:=16) (zv := .agg [aI 0,aI 0]) (xs:=(qv (l.take k) 0++(yH k l[k]).take j).map rP) (ys:=[rP ((k:Int),t)]) zSi zSi zSi rfl rfl zOm zOm h2 (by simp[qz]) (J1 _) (J1 [((k:Int),t)]) (by grind) ?_;intro P a4 a1 a5 aj ak;have ae:=a5 0 zSp h3;have a6:=a5 (C.length+1) ad h4;rw[h1]at a6;obtain⟨J,rfl⟩:∃ J,a4 = .arr [I] :: J:=by
    cases a4 with
    |nil=>simp at ae
    |cons c r=>grind
   have R:qj P≠some 0:=fun h=>by grind
   have a7:qj P≠some (C.length+1):=fun h=>by grind
   have a8:=Own.set a1 (i:=0) (.arr [P]) R;have a9:(qv (l.take k) 0++(yH k l[k]).take j).map rP++[rP ((k:Int),t)]=(qv (l.take k) 0++(yH k l[k]).take (j+1)).map rP:=by
    grind
   rw[a9]at a8;simp[go_sem,e3,Own.one a1,Own.cells a1];exact tM ⟨P,J,rfl,zUs a6,zUs a8,R,a7⟩
  .rintro M ⟨I,o,rfl,h1,h2,h3,h4⟩
   have a2:(yH k l[k]).take ((vb l[k]).map fun t=>[aI t]).length=yH k l[k]:=by
    simp_all[zK,zO,yH,qo]
   rw[a2,<-a0]at h2;simp[go_sem,e9];refine Keep.loop (l.length-(k+1)) zOm ⟨k+1,I,o,rfl,zOm,zS1 e3,zS1 e7,zS1 e8,?_,zSi,zVs h2,h3⟩;simp[go_sem];grind [zL]
  grind
 .have al:k=l.length:=by omega
  simp_all[go_sem,qO,cD]
end GF
namespace GH
open P1 YF E3 EO EQ ER EW F1 F4 GF GG
abbrev lMd(l:List Md):AV := .lst false (l.map cMd)
theorem Zc(xs:List Md):zc 4 (xs.map cMd):=fun r g=>by
 obtain⟨n,_,rfl⟩:=qi.1 g;exact⟨rfl,rfl⟩
theorem Kn:∀ r c x,x∈subL c r->∀ y,y∈x->y∈c\/y∈r
 | [],c,x,h,y,g=>by grind [subL,qT]
 |z :: r,c,x,h,y,g=>by
  rw[subL,qH]at h;rcases h with h|h
  .rcases Kn r c x h y g with h|h
   .exact .inl h
   .exact .inr (zP1 h)
  .rcases Kn r _ x h y g with h|h
   .rcases qH.1 h with h|h
    .exact .inl h
    .rw [qT]at h;subst h;exact .inr zSp
   .exact .inr (zP1 h)
def vq(inst:Nat->List (List AV)->Md)(cs:List (List AV))(k:Nat):List Md:=(qq k).flatMap fun s=>(subL [] cs).map (inst s)
theorem qaC(inst cs k):vq inst cs (k+1)=vq inst cs k++(subL [] cs).map (inst k):=by
 unfold vq;rw[List.range_succ,List.flatMap_append];simp
theorem Ko(inst cs):∀ k,(vq inst cs k).length=k*(subL [] cs).length
 | 0=>by simp[vq]
 |k+1=>by rw[qaC,qX,Ko inst cs k,zK,Nat.succ_mul]
theorem cB{mu av xs}(h:Own mu 4 av (xs.map cMd)):Rd mu av (lMd xs):=
 h.rd (Zc xs).ok fun r i c g=>by
  obtain⟨n,_,rfl⟩:=qi.1 i;simp at g;rcases g with rfl|rfl|rfl|rfl<;>first|exact HF.sc _|exact zh _|exact JM _
theorem qmS(ts)(sc:Sc)(bs cs inst)(S:Nat)(hS:sc.sN=S)(ax:S<=4)(hr:w7 cs)(hl:cs.length<=14)(aq:S*(subL [] cs).length<=1000000)
  (ay:S*2 ^ cs.length<=16384)
  (T:qd qb 31 [eTS ts,eSc sc] (aB true)) (P:qd qb 32 [eTS ts,eSc sc,lBd bs] (aB true)) (h3:qd qb 33 [eTS ts,eSc sc,lBd bs] (.lst false cs))
  (hi:∀ k,k<S->∀ c,c∈subL [] cs->qd qb 35 [eTS ts,eSc sc,lBd bs,aI (k:Nat),.lst false c] (eMd (inst k c))):qd qb 9 [eTS ts,eSc sc,lBd bs] (.tup [lMd (vq inst cs S),aI 0]):=by
 refine qSU call9 func9 rfl ?_;refine fR T (.zk (zl _) (.zk (zA _) .nil)) ?_;refine fR P (.zk (zl _) (.zk (zA _) (.zk (zZ _) .nil))) ?_;refine tC h3 (.zk (zl _) (.zk (zA _) (.zk (zZ _) .nil))) ?_;have ag:¬(14:Int)<cs.length:=zOm;have n0:¬(cs.length:Int)<0:=zOm;have o:min cs.length 64=cs.length:=zOm;have ar:(S:Int)*2 ^ cs.length<=16384:=by grind
 have au:(0:Int)<=(S:Int)*2 ^ cs.length:=by exact_mod_cast Nat.zero_le _
 have ah:qm.wrap ((S:Int)*2 ^ cs.length)=(S:Int)*2 ^ cs.length:=zWr;have ai:¬(16384:Int)<(S:Int)*2 ^ cs.length:=zOm;simp[go_sem,ag,hS,n0,o,ah,ai];refine tP (fun m U=>∃ k t C,m=S-k/\k<=S/\U.tm 3 = .ip (cTS ts)/\U.tm 4 = .ip [lI sc.sC,aI sc.sN]/\U.tm 5 = .ip [lBd bs]/\U.tm 8 = .lst false cs/\U.tm 9 = .ptr 0 0/\U.tm 39=aI S/\U.tm 40=aI (k:Nat)/\U.mu = .arr [t] :: C/\Own U.mu 4 t ((vq inst cs k).map cMd)/\qj t≠some 0) S ?_ ?_
 .refine ⟨0,.lst true [],[],zOm,zOm,zSi,zS1 hS,zSi,zSi,zSi,zSi,zSi,zSi,?_,by simp[qj]⟩
  simp[go_sem,vq];exact .inl rfl
 rintro m U ⟨k,t,C,rfl,hk,e3,e4,e5,e8,e9,a0,a1,hm,ho,aj⟩;by_cases a6:k<S
 .have az:=Ko inst cs (k+1)
  have aw:=Nat.mul_le_mul_right (subL [] cs).length (show k+1<=S by omega);have a2:=qaC inst cs k;rw[hm]at ho;have ak:qj t≠some (C.length+1):=fun h=>by have:=Own.lt ho h;simp at this
  simp[go_sem,e8,a0,a1,hm,a6];refine fR (ql4 cs hr) (.zk (HF.lst fun r a3 x hx=>(hr r a3).2.2 x hx) .nil) ?_;refine tD (ql3 cs hr zOm) (fun j M=>∃ t l,M = .arr [t] :: l/\M[C.length+1]?=some (.arr [aI k])/\Own M 4 t ((vq inst cs k++((subL [] cs).map (inst k)).take j).map cMd)/\qj t≠some 0/\qj t≠some (C.length+1)) (fun _ _=>False) ?_ ?_ ?_ ?_ ?_ ?_
  .refine ⟨t,_,by simp only[qA,yw];rfl,zSi,?_,aj,ak⟩
   have:=Own.push ho [Cell.arr [aI k],.dead];simp_all[go_sem]
  .rintro j M ⟨t,l,rfl,T,P,h3,h4⟩
   exact⟨t,l++[.dead],rfl,by grind,Own.push P _,h3,h4⟩
  .grind
  .rintro j x M hj ⟨t,l,rfl,T,P,h3,h4⟩
   rw[zf,jK]at hj;obtain⟨c,hc,rfl⟩:=hj;have b0:j<(subL [] cs).length:=(qg.1 hc).1;have a7:c∈subL [] cs:=qU hc;have b1:((subL [] cs).map (inst k)).take (j+1)=((subL [] cs).map (inst k)).take j++[inst k c]:=by
    rw[List.take_add_one];have:((subL [] cs).map (inst k))[j]?=some (inst k c):=by rw[zf,hc];rfl
    rw[this];rfl
   refine⟨rfl,?_⟩;have al:=(qg.1 T).1;have a8:=T;simp at a8;simp[go_sem];refine cZ zKr ?_;simp[go_sem,e3,e4,e5,e9,a8];refine tC (hi k a6 c a7) (.zk (zl _) (.zk (zA _) (.zk (zZ _) (.zs (.zk (HF.lst ?_) .nil))))) ?_
   .exact fun r a3 x hx=>(hr r (by rcases Kn cs [] c a7 r a3 with h|h;exact absurd h zSp;exact h)).2.2 x hx
   simp[go_sem];refine qu.ownB (e:=43) (sz:=4) (bt:=64) (zv := .agg [.lst true [],aI 0,.lst true [],aI 0]) (xs:=vq inst cs k++((subL [] cs).map (inst k)).take j |>.map cMd) (ys:=[cMd (inst k c)]) zSi zSi zSi rfl rfl zOm zOm P (by simp[qz]) (Zc _) (Zc [inst k c]) ?_ ?_
   .grind
   intro J a9 a4 aa b2 b3;have an:=aa 0 zSp h3;have ab:=aa (C.length+1) al h4;rw[T]at ab;obtain⟨I,rfl⟩:∃ I,a9 = .arr [t] :: I:=by
    cases a9 with
    |nil=>simp at an
    |cons c r=>grind
   have R:qj J≠some 0:=fun h=>by grind
   have ad:qj J≠some (C.length+1):=fun h=>by grind
   have ae:=Own.set a4 (i:=0) (.arr [J]) R;have af:(vq inst cs k++((subL [] cs).map (inst k)).take j).map cMd++[cMd (inst k c)]=(vq inst cs k++((subL [] cs).map (inst k)).take (j+1)).map cMd:=by
    grind
   rw[af]at ae;simp[go_sem,e9,Own.one a4,Own.cells a4];exact tM ⟨J,I,rfl,zUs ab,zUs ae,R,ad⟩
  .rintro M ⟨t,l,rfl,T,P,h3,h4⟩
   have a5:((subL [] cs).map (inst k)).take ((subL [] cs).map fun c=>[AV.lst false c]).length=(subL [] cs).map (inst k):=by
    rw[zK,zO zSp]
   rw[a5,<-a2]at P;simp[go_sem,a1];refine Keep.loop (S-(k+1)) zOm ⟨k+1,t,l,rfl,zOm,zS1 e3,zS1 e4,zS1 e5,zS1 e8,zS1 e9,zS1 a0,?_,zSi,zVs P,h3⟩;simp[go_sem];grind [zL]
  grind
 .have ao:k=S:=by omega
  subst ao;rw[hm]at ho;simp[go_sem,e9,a0,a1,hm];refine .tup _ _ rfl fun j x y hx hy=>?_
  match j with
  | 0=>grind [cB]
  | 1=>simp at hx hy;subst hx;subst hy;exact .zsc _
  |j+2=>simp at hx
end GH
namespace GU
open YF P1 E1 E3 EO EQ F4 GF GH GR GS
abbrev Ch:=Int×Int×Int
abbrev rC(c:Ch):List AV:=[aI c.1,aI c.2.1,aI c.2.2]
theorem Yt(l:List Ch):zc 3 (l.map rC):=fun r g=>by
 obtain⟨n,_,rfl⟩:=qi.1 g;exact⟨rfl,rfl⟩
abbrev lCh(l:List Ch):AV := .lst false (l.map rC)
def chA(g:List Bool)(s:Nat)(i:List (Int×Int)):List Ch:=(i.filter fun p=>decide (s=0)||g.getD p.1.toNat true).map fun p=>((s:Int),p.1,p.2)
def chs(g:List Bool)(i:List (Int×Int))(k:Nat):List Ch:=(qq k).flatMap fun s=>chA g s i
theorem J4(g i k):chs g i (k+1)=chs g i k++chA g k i:=by
 rw[chs,List.range_succ,List.flatMap_append];simp[chs]
theorem qaD(i s)(g:List (Int×Int))(j h):chA i s (g.take (j+1))=chA i s (g.take j)++(if (decide (s=0)||i.getD g[j].1.toNat true)=true then [((s:Int),g[j].1,g[j].2)] else []):=by
 rw[vu h,chA,List.filter_append,q9];by_cases l:(decide (s=0)||i.getD g[j].1.toNat true)=true
 .rw [if_pos l,show [g[j]].filter (fun p=>decide (s=0)||i.getD p.1.toNat true)=[g[j]] from List.filter_cons_of_pos (p:=fun p:Int×Int=>decide (s=0)||i.getD p.1.toNat true) l];rfl
 .rw [if_neg l,show [g[j]].filter (fun p=>decide (s=0)||i.getD p.1.toNat true)=[] from List.filter_cons_of_neg (p:=fun p:Int×Int=>decide (s=0)||i.getD p.1.toNat true) l];rfl
theorem Kq(i s g):(chA i s g).length<=g.length:=by
 rw[chA,zK];grind
theorem Kr(i g):∀ k,(chs i g k).length<=k*g.length
 | 0=>by simp[chs]
 |k+1=>by
  rw[J4,qX,Nat.succ_mul];have:=Kr i g k;have:=Kq i k g;omega
theorem J5:∀ g k,∀ p,p∈qv g k->(k:Int)<=p.1/\p.1<(k+g.length:Nat)
 | [],k,p,h=>by simp[qv]at h
 |b :: g,k,p,h=>by
  simp only[qv,qH]at h;rcases h with h|h
  .simp only[yH,qi]at h
   obtain⟨t,_,rfl⟩:=h;simp;omega
  .have:=J5 g (k+1) p h
   simp only[zz];omega
theorem qaE(ts)(sc:Sc)(t)(N:Nat)(hS:sc.sN=N)(hN:N<=4)(hl:t.length<=1000)(hb:∀ x,x∈t->Qa x)(ag:t.length<=ts.sA.length)(a9:(qv t 0).length<=100000) :
  qd qb 33 [eTS ts,eSc sc,lBd t] (lCh (chs (vsT ts) (qv t 0) N)):=by
 have R:=qaB t hl hb;have ah:=J3 t 0 hb;have a1:=J5 t 0;generalize hF:qv t 0=F at *
 refine qSV call33 func33 rfl ?_;simp[go_sem,hS];refine kT N (fun k U=>U.tm 2=lBd t/\U.tm 3 = .ip (cTS ts)/\U.tm 12=aI N/\U.tm 13=aI k/\Own U.mu 3 (U.tm 7) ((chs (vsT ts) F k).map rC)) ?_ ?_
 .exact ⟨zSi,zSi,zSi,zSi,.inl (by simp[go_sem,chs])⟩
 rintro k U hk ⟨e2,e3,l,o,ho⟩;by_cases a2:k<N
 .have w1:=zWk k
  have ai:=Kr (vsT ts) F k;have ae:k*F.length<=4*100000:=Nat.mul_le_mul zOm a9;simp[go_sem,e2,l,o,a2];refine fR R (.zk (zZ _) .nil) ?_;refine kT F.length (fun j st2=>st2.tm 2=lBd t/\st2.tm 3 = .ip (cTS ts)/\st2.tm 12=aI N/\st2.tm 13=aI k/\st2.tm 8=aI k/\st2.tm 17=lP F/\st2.tm 18=aI F.length/\st2.tm 19=aI j/\Own st2.mu 3 (st2.tm 7) ((chs (vsT ts) F k++chA (vsT ts) k (F.take j)).map rC)) ?_ ?_
  .simp_all [go_sem,chA]
  clear e2 e3 l o;rintro j st2 hj ⟨e2,e3,l,o,e8,a3,T,a4,C⟩;by_cases I:j<F.length
  .have w2:=zWk j
   have hm:=a1 _ (qn I);obtain⟨f,hf⟩:=Int.eq_ofNat_of_zero_le (show 0<=F[j].1 by omega);have a5:f<ts.sA.length:=zOm;have aa:0<=F[j].1:=zOm;have ab:F[j].1.toNat=f:=zOm;have a6:F[j].1<ts.sA.length:=zOm;have ad:(vsT ts).getD F[j].1.toNat true=ts.sA[f].var:=by grind
   have aj:=Kq (vsT ts) k (F.take j);have ak:=List.length_take_le j F;have hs:=qaD (vsT ts) k F j I;rw[ad]at hs;have af:∀(K:AV->Mu->Prop)(c:Cell),(∀ a7 a8,Own a8 3 a7 ((chs (vsT ts) F k++(chA (vsT ts) k (F.take j)++[((k:Int),F[j].1,F[j].2)])).map rC)->K a7 a8)->qu qb (st2.mu++[c]) #[86,86] (st2.tm 7) (.lst true [[aI k,aI F[j].1,aI F[j].2]]) K:=fun K c hK=>by
    refine qu.ownB (e:=136) (sz:=3) (bt:=24) (zv := .agg [aI 0,aI 0,aI 0]) (xs:=(chs (vsT ts) F k++chA (vsT ts) k (F.take j)).map rC) (ys:=[rC ((k:Int),F[j].1,F[j].2)]) zSi zSi zSi rfl rfl zOm zOm (Own.push C _) (by simp[qz]) (Yt _) (Yt [_]) zSo ?_
    grind
   by_cases P:(decide (k=0)||ts.sA[f].var)=true
   .rw [if_pos P]at hs
    by_cases J:k=0
    .simp_all [go_sem,aK]
    .have hv:ts.sA[f].var=true:=by simpa[J] using P
     simp_all[go_sem,aK]
   .rw [if_neg P,zF]at hs
    have J:¬k=0:=fun h=>P (zP1 h)
    have hv:ts.sA[f].var=false:=by simpa[J] using P
    simp[go_sem,e3,e8,a3,T,a4,I,J,aa,ab,a6,a5,hv,w2]
    try refine⟨I,aK ?_⟩
    try refine aK ?_
    refine⟨zS1 e2,zS1 e3,zS1 l,zS1 o,zS1 e8,zS1 a3,zS1 T,zSi,?_⟩;rw[hs];simpa[go_sem] using Own.push C _
  .have a0:j=F.length:=by omega
   subst a0;rw[qO]at C;simp[go_sem,o,T,a4,w1]
   try refine⟨a2,aK ?_⟩
   try refine aK ?_
   refine⟨zS1 e2,zS1 e3,zS1 l,zSi,?_⟩;rw[J4];simpa[go_sem] using C
 .have a0:k=N:=by omega
  subst a0;simp[go_sem,l,o];exact Own.rd ho (Yt _).ok fun r hr c P=>by
   obtain⟨n,_,rfl⟩:=qi.1 hr;simp at P;rcases P with rfl|rfl|rfl<;>exact HF.sc _
def selT(g:List Ch)(s f:Nat):List Int:=(g.filter fun c:Ch=>decide (c.1=(s:Int))&&decide (c.2.1=(f:Int))).map fun c=>c.2.2
def vr(g:List Ch)(s f:Nat)(b:Bd):Rl:=unR b.lo ⟨b.lo.ar,selT g s f⟩
def jb(i:List Bool)(j:List Bd)(g:List Ch)(s:Nat):List Rl:=j.mapIdx fun f b=>if s≠0/\i.getD f true=false then vr g 0 f b else vr g s f b
theorem ZM(i g j s):(jb i g j s).length=g.length:=by simp[jb]
theorem Yu(j g i s f h l):(jb j g i s)[f]=if s≠0/\j.getD f true=false then vr i 0 f g[f] else vr i s f g[f]:=by simp[jb]
theorem qmT(g:List Ch)(s f i h):selT (g.take (i+1)) s f=selT (g.take i) s f++(if g[i].1=s/\g[i].2.1=f then [g[i].2.2] else []):=by
 rw[vu h,selT,List.filter_append,q9];by_cases j:g[i].1=s/\g[i].2.1=f
 .rw [if_pos j,show [g[i]].filter (fun c:Ch=>decide (c.1=(s:Int))&&decide (c.2.1=(f:Int)))=[g[i]] from List.filter_cons_of_pos (p:=fun c:Ch=>decide (c.1=(s:Int))&&decide (c.2.1=(f:Int))) (zUs j)];rfl
 .rw [if_neg j,show [g[i]].filter (fun c:Ch=>decide (c.1=(s:Int))&&decide (c.2.1=(f:Int)))=[] from List.filter_cons_of_neg (p:=fun c:Ch=>decide (c.1=(s:Int))&&decide (c.2.1=(f:Int))) (zUs j)];rfl
theorem qaF(g s f):(selT g s f).length<=g.length:=by rw[selT,zK];exact List.length_filter_le ..
abbrev zR:List AV:=[aI 0,.lst true []]
def jc(L:List Rl)(n j:Nat):List (List AV):=(L.take j).map cRel++qS (n-j) zR
theorem qaG(L n j)(g:L.length=n)(h:j<=n):(jc L n j).length=n:=by grind [jc]
theorem qaH(L n j):yE 2 (jc L n j):=fun r g=>by
 simp only[jc,qH,qi,List.mem_replicate]at g;rcases g with ⟨q,_,rfl⟩|⟨_,rfl⟩<;>rfl
theorem qmU(L n j)(i:L.length=n)(h:j<n):(jc L n j).set j (cRel (L[j]' zOm))=jc L n (j+1):=by
 unfold jc;have g:((L.take j).map cRel).length=j:=zSo;rw[List.set_append_right _ _ zOm,g,Nat.sub_self,show n-j=n-(j+1)+1 by omega,List.replicate_succ,List.set_cons_zero,vu (show j<L.length by omega),q9,zy];rfl
theorem qmV(L n)(g:L.length=n):jc L n n=L.map cRel:=by
 unfold jc;rw[<-g,qO,Nat.sub_self];simp
structure qaI (b:Bd):Prop where
 l:b.lo.ts.length<=50000
def yI(sc:Sc)(g:List Bool)(i:List Bd)(j:List Ch)(N:Nat)(loop:Int):Md:=⟨sc,(qq N).map (jb g i j),loop⟩
theorem qmW(ts)(sc:Sc)(o C loop)(N:Nat)(hS:sc.sN=N)(hN:N<=4)(hl:o.length<=1000)(hb:∀ x,x∈o->qaI x)(dc:o.length<=ts.sA.length)(dd:C.length<=50000) :
  qd qb 35 [eTS ts,eSc sc,lBd o,aI loop,lCh C] (eMd (yI sc (vsT ts) o C N loop)):=by
 have bj:eMd (yI sc (vsT ts) o C N loop) = .agg [lI sc.sC,aI N,lSt ((qq N).map (jb (vsT ts) o C)),aI loop]:=by rw[<-hS];rfl
 rw[bj];have a0:=ZM (vsT ts) o C;have bk:=Yu (vsT ts) o C;clear bj;generalize hA:jb (vsT ts) o C=A at a0 bk⊢;refine qSV call35 func35 rfl ?_;simp[go_sem,hS];refine kT N (fun k U=>U.tm 2=lBd o/\U.tm 4=lCh C/\U.tm 5 = .ip (cTS ts)/\U.tm 10 = .ptr 0 0/\U.tm 11 = .ptr 1 0/\U.tm 23=aI N/\U.tm 24=aI k /\
  ∃ s,U.mu[0]?=some (.arr [.lst true [],aI 0,.lst true [],aI 0])/\U.mu[1]?=some (.arr [lI sc.sC,aI N,s,aI loop])/\Own U.mu 1 s (((qq k).map A).map fun r=>[lRel r])/\∀ b,qj s=some b->2<=b) ?_ ?_
 .exact ⟨zSi,zSi,zSi,zSi,zSi,zSi,zSi,.lst true [],zSi,zSi,.inl zSp,by simp[qj]⟩
 rintro k U hk ⟨e2,e4,e5,ck,cl,bm,bn,s,h0,h1,ho,bb⟩;have cm:=(qg.1 h0).1;have de:=(qg.1 h1).1;by_cases bo:k<N
 .have w1:=zWk k
  have cn:(o.length:Int)<=4294967296:=zOm;simp[go_sem,e2,bm,bn,bo,cn];have bq:∀ b,qj s=some b->b<U.mu.length:=fun b h=>Own.lt ho h
  have df:2<=U.mu.length:=zOm;have dh:(qS o.length [AV.sc (Value.int qm 0),AV.lst true []]).flatten=(jc (A k) o.length 0).flatten:=by simp[jc]
  generalize hR:U.mu.length=R at *
  refine kT o.length (fun j st2=>st2.tm 2=lBd o/\st2.tm 4=lCh C/\st2.tm 5 = .ip (cTS ts)/\st2.tm 10 = .ptr 0 0/\st2.tm 11 = .ptr 1 0/\st2.tm 23=aI N/\st2.tm 24=aI k/\st2.tm 12=aI k/\st2.tm 13 = .sl R 2 0 o.length/\st2.tm 30=lBd o/\st2.tm 31=aI o.length/\st2.tm 32=aI j /\
   st2.mu[R]?=some (.arr (jc (A k) o.length j).flatten)/\∀ i,i<R->st2.mu[i]?=U.mu[i]?) ?_ ?_
  .simp_all [go_sem]
  rintro j st2 hj ⟨f2,f4,f5,f10,f11,f23,f24,f12,f13,f30,f31,f32,an,P⟩;have cp:R<st2.mu.length:=(qg.1 an).1;have b7:st2.mu[1]?=some (.arr [lI sc.sC,aI N,s,aI loop]):=by grind
  by_cases I:j<o.length
  .have w2:=zWk j
   have bc:j<ts.sA.length:=zOm;have cq:(vsT ts).getD j true=ts.sA[j].var:=by rw[zC,zf,qw bc];rfl
   have ao:(jc (A k) o.length j).flatten.length=o.length*2:=by rw[yD (qaH _ _ _),qaG _ _ _ (a0 k) zOm]
   have a3:∀ s,j<(A s).length:=fun s=>by grind
   have a9:(jc (A k) o.length j).flatten.take (j*2)++aI ((A k)[j]'(a3 k)).ar :: lI ((A k)[j]'(a3 k)).ts :: (jc (A k) o.length j).flatten.drop (j*2+2)=(jc (A k) o.length (j+1)).flatten:=by
    rw[<-qmU (A k) o.length j (a0 k) I,Je _ j _ (qaH _ _ _) rfl (by grind [qaG]),yY _ _ _ (by rw[ao];simp only[cRel,zz,List.length_nil];omega)];simp
   have b8:∀ c,(st2.mu++[c])[R]?=some (.arr (jc (A k) o.length j).flatten):=fun c=>by grind
   simp[go_sem,f12,f30,f31,f32,I];by_cases be:k≠0/\ts.sA[j].var=false
   .obtain ⟨bg,hv⟩:=be
    have a2:0<k:=zOm;have aa:(A k)[j]'(a3 k)=(A 0)[j]'(a3 0):=by
     grind
    rw[aa]at a9;have bh:∀ c,(st2.mu++[c])[1]?=some (.arr [lI sc.sC,aI N,s,aI loop]):=fun c=>by grind
    have da:=a3 0;have cr:(((qq k).map A).map fun r=>[lRel r]).flatten[0]?=some (lRel (A 0)):=by
     obtain⟨k',rfl⟩:∃ k',k=k'+1:=⟨k-1,zOm⟩;rw[List.range_succ_eq_map];simp
    have cs:(((qq k).map A).map fun r=>[lRel r]).length=k:=zSp;generalize ab:(((qq k).map A).map fun r=>[lRel r])=rows at *
    have di:rows[0]?=some [lRel (A 0)]:=by
     rw[<-ab];obtain⟨k',rfl⟩:∃ k',k=k'+1:=⟨k-1,zOm⟩;simp
    have br:(rows.map List.length).sum=k:=by
     have:=yD (sz:=1) (xs:=rows) (by rw[<-ab];intro r hr;obtain⟨n,_,rfl⟩:=qi.1 hr;rfl);rw[List.length_flatten]at this;omega
    have bu:rows.flatten.take 1=[lRel (A 0)]:=by
     cases dj:rows.flatten with
     |nil=>grind
     |cons x l=>grind
    simp[go_sem,f5,f11,f13,a2,bc,hv,bh];rcases ho with rfl|⟨c,rfl,bv⟩
    .refine tA (.ip [lRel (A 0)]) (by grind) ?_
     simp[go_sem,I,b8,a0,ao];refine tA ((st2.mu++[Cell.arr (cBd o[j])]).set R (.arr (jc (A k) o.length (j+1)).flatten)) (by rw[if_pos zOm,a9]) ?_;simp[go_sem,f32,I,w2]
     try refine⟨I,aK ?_⟩
     try refine aK ?_
     refine⟨zS1 f2,zS1 f4,zS1 f5,zS1 f10,zS1 f11,zS1 f23,zS1 f24,zS1 f12,zS1 f13,by simp[go_sem,f30],by simp[go_sem,f31],zSi,?_,fun i hi=>?_⟩
     .simp only[qA];rw[qI zSo]
     grind [qA,yu,qG]
    .have dk:=(qg.1 bv).1
     have bw:∀ x,(st2.mu++[x])[c]?=some (.arr rows.flatten):=fun x=>by rw[zGa,P c zOm];exact bv
     simp[go_sem,a2,bw,cs];refine tA (lRel (A 0)) (by rw[br,if_pos zOm,bu];rfl) ?_;simp[go_sem,I,b8,a0,ao];refine tA ((st2.mu++[Cell.arr (cBd o[j])]).set R (.arr (jc (A k) o.length (j+1)).flatten)) (by rw[if_pos zOm,a9]) ?_;simp[go_sem,f32,I,w2]
     try refine⟨I,aK ?_⟩
     try refine aK ?_
     refine⟨zS1 f2,zS1 f4,zS1 f5,zS1 f10,zS1 f11,zS1 f23,zS1 f24,zS1 f12,zS1 f13,by simp[go_sem,f30],by simp[go_sem,f31],zSi,?_,fun i hi=>?_⟩
     .simp only[qA];rw[qI zSo]
     .simp only[qA];rw[zGl,zGa];exact P i hi
   .have aa:(A k)[j]'(a3 k)=vr C k j o[j]:=by
     rw[bk k j I,cq];by_cases bg:k=0
     .rw [if_neg (fun h=>h.1 bg)]
     .rw [if_neg (fun h=>be h)]
    rw[aa]at a9;have ct:0<k->ts.sA[j].var=true:=fun bg=>by
     cases hv:ts.sA[j].var with
     |true=>rfl
     |false=>exact absurd ⟨zOm,hv⟩ be
    generalize hX:st2.mu.length=X at *
    by_cases a2:0<k
    all_goals simp[go_sem,f4,f5,a2,bc,ct,hX]
    all_goals
     refine kT C.length (fun i st3=>st3.tm 2=lBd o/\st3.tm 4=lCh C/\st3.tm 5 = .ip (cTS ts)/\st3.tm 10 = .ptr 0 0/\st3.tm 11 = .ptr 1 0/\st3.tm 23=aI N/\st3.tm 24=aI k/\st3.tm 12=aI k/\st3.tm 13 = .sl R 2 0 o.length/\st3.tm 30=lBd o/\st3.tm 31=aI o.length/\st3.tm 32=aI j /\
      st3.tm 14=aI j/\st3.tm 15 = .ptr X 0/\st3.tm 16 = .ptr (X+1) 0/\st3.tm 62=lCh C/\st3.tm 63=aI C.length/\st3.tm 64=aI i/\st3.mu[X]?=some (.arr (cBd o[j]))/\(∀ i,i<X->st3.mu[i]?=st2.mu[i]?) /\
      ∃ t,st3.mu[X+1]?=some (.arr [aI o[j].lo.ar,t])/\Own st3.mu 1 t ((selT (C.take i) k j).map rI)/\∀ b,qj t=some b->X+1<b) ?_ ?_
     .refine ⟨zS1 f2,zS1 f4,zS1 f5,zS1 f10,zS1 f11,zS1 f23,zS1 f24,zS1 f12,zS1 f13,by simp[go_sem,f30],by simp[go_sem,f31],by simp[go_sem,f32],zSi,zSi,zSi,zSi,zSi,zSi,zS1 hX,fun i hi=>by simp[go_sem];rw[zGa],.lst true [],zS1 hX,.inl (by simp[selT]),by simp[qj]⟩
     rintro i st3 hi ⟨g2,g4,g5,aq,au,aw,ax,ad,ae,ay,az,b0,a4,b1,a5,b2,af,ag,ca,J,t,b3,ah,a6⟩;by_cases T:i<C.length
     .have w3:=zWk i
      have a7:=qmT C k j i T;have cb:=qaF (C.take i) k j;have db:=List.length_take_le i C;have cc:=(qg.1 b3).1;have bi:∀ c,(st3.mu++[c])[X]?=some (.arr (cBd o[j])):=fun c=>by rw[zGa];exact ca
      have b4:∀ c,(st3.mu++[c])[X+1]?=some (.arr [aI o[j].lo.ar,t]):=fun c=>by rw[qG cc];exact b3
      have cd:qj t≠some (X+1):=fun h=>zW1 (a6 _ h)
      simp[go_sem,ad,b2,af,ag,T];by_cases ai:C[i].1=(k:Int)
      .by_cases b5:C[i].2.1=(j:Int)
       .rw [if_pos ⟨ai,b5⟩]at a7
        simp[go_sem,a4,a5,b4,ai,b5];refine qu.ownB (e:=3) (sz:=1) (bt:=8) (zv:=aI 0) (xs:=(selT (C.take i) k j).map rI) (ys:=[rI C[i].2.2]) zSi zSi zSi rfl rfl zOm zOm (Own.push ah _) (by simp[qz]) (yk _) (yk [_]) zSo ?_;intro aj ak a1 a8 b6 cu;have q1:ak[X+1]?=some (.arr [aI o[j].lo.ar,t]):=by rw[a8 _ zSo cd];exact b4 _
        have q0:ak[X]?=some (.arr (cBd o[j])):=by rw[a8 _ zSo (fun h=>zW1 (a6 _ h))];exact bi _
        have ql:=(qg.1 q1).1;have cf:∀ b,qj aj=some b->X+1<b:=fun b h=>by have:=b6 b h;simp at this;omega
        simp[go_sem,a5,ag,T,q1,w3,Own.one a1,Own.cells a1]
        try refine⟨T,aK ?_⟩
        try refine aK ?_
        refine⟨zS1 g2,zS1 g4,zS1 g5,zS1 aq,zS1 au,zS1 aw,zS1 ax,zS1 ad,zS1 ae,zS1 ay,zS1 az,zS1 b0,zS1 a4,zS1 b1,zS1 a5,zS1 b2,zS1 af,zSi,?_,fun i hi=>?_,aj,?_,?_,cf⟩
        .simp only[qA];rw[zGl];exact q0
        .simp only[qA];rw[zGl,a8 i zSo (fun h=>zW1 (a6 _ h)),zGa];exact J i hi
        .simp only[qA];exact qI ql
        .simp only[qA];rw[a7,q9];exact Own.set a1 _ (fun h=>zW1 (cf _ h))
       .rw [if_neg (fun h=>b5 h.2),zF]at a7
        simp[go_sem,a4,ag,T,ai,b5,w3]
        try refine⟨T,aK ?_⟩
        try refine aK ?_
        refine⟨zS1 g2,zS1 g4,zS1 g5,zS1 aq,zS1 au,zS1 aw,zS1 ax,zS1 ad,zS1 ae,zS1 ay,zS1 az,zS1 b0,zS1 a4,zS1 b1,zS1 a5,zS1 b2,zS1 af,zSi,?_,fun i hi=>?_,t,?_,?_,a6⟩
        .simp only[qA];exact bi _
        .simp only[qA];rw[zGa];exact J i hi
        .simp only[qA];exact b4 _
        .simp only[qA];rw[a7];exact Own.push ah _
      .rw [if_neg (fun h=>ai h.1),zF]at a7
       simp[go_sem,ag,T,ai,w3]
       try refine⟨T,aK ?_⟩
       try refine aK ?_
       refine⟨zS1 g2,zS1 g4,zS1 g5,zS1 aq,zS1 au,zS1 aw,zS1 ax,zS1 ad,zS1 ae,zS1 ay,zS1 az,zS1 b0,zS1 a4,zS1 b1,zS1 a5,zS1 b2,zS1 af,zSi,?_,fun i hi=>?_,t,?_,?_,a6⟩
       .simp only[qA];exact bi _
       .simp only[qA];rw[zGa];exact J i hi
       .simp only[qA];exact b4 _
       .simp only[qA];rw[a7];exact Own.push ah _
     .have al:i=C.length:=by omega
      subst al;rw[qO]at ah;simp[go_sem,ae,a4,b1,a5,af,ag,ca,b3];have cb:=qaF C k j;have cv:=jT o[j].lo ⟨o[j].lo.ar,selT C k j⟩ (zW1 ((hb _ (qn I)).l)) (by show (selT C k j).length<=_;omega);have b9:∀ i,i<X->(cutM (fun i=>!decide (X<=i)) st3.mu 0)[i]?=st2.mu[i]?:=fun i hi=>by
       rw[js,J i hi];simp only[z7,decide_eq_false (show ¬X<=i by omega),Bool.not_false,if_true];cases st2.mu[i]?<;>rfl
      refine fQ (qy.freeze (args1:=[eRel o[j].lo,eRel ⟨o[j].lo.ar,selT C k j⟩]) (fun i=>decide (X<=i)) ⟨.inl rfl,.inr ?_,trivial⟩ (qd.toSound _ cv (.zk (qK _) (.zk (qK _) .nil)))) ?_ ?_
      .exact Rd.aggs ⟨.hf _ (HF.sc _),Own.rd (Ys ah fun b h=>zW1 (a6 b h)) (yk _).ok fun r hr c hc=>by
        obtain⟨n,_,rfl⟩:=qi.1 hr;simp at hc;subst hc;exact HF.sc _,trivial⟩
      .rintro r m ⟨h,rfl⟩
       cases h;have cg:(cutM (fun i=>!decide (X<=i)) st3.mu 0)[R]?=some (.arr (jc (A k) o.length j).flatten):=by rw[b9 R cp];exact an
       simp[go_sem,cg,I,ao];have dm:(cutM (fun i=>!decide (X<=i)) st3.mu 0).length=st3.mu.length:=jz _ _ _;have cc:=(qg.1 b3).1;refine tA ((cutM (fun i=>!decide (X<=i)) st3.mu 0).set R (.arr (jc (A k) o.length (j+1)).flatten)) (by rw[if_pos zOm];exact congrArg (fun l=>some ((cutM (fun i=>!decide (X<=i)) st3.mu 0).set R (Cell.arr l))) a9) ?_;simp[go_sem,b0,I,w2]
       try refine⟨I,aK ?_⟩
       try refine aK ?_
       refine⟨zS1 g2,zS1 g4,zS1 g5,zS1 aq,zS1 au,zS1 aw,zS1 ax,zS1 ad,zS1 ae,zS1 ay,zS1 az,zSi,?_,fun i hi=>?_⟩
       .simp only[qA];rw[qI zOm]
       .simp only[qA];rw[zGl,b9 i zOm];exact P i hi
      .rintro r m ⟨h,_⟩
       cases h
  .have al:j=o.length:=by omega
   subst al;rw[qmV _ _ (a0 k)]at an;have cx:Own st2.mu 2 (.sl R 2 0 o.length) ((A k).map cRel) := .inr ⟨R,zP1 a0,an⟩;simp[go_sem,f11,f13,f31,f32,b7];refine aQ (e:=98) (sz:=1) (bt:=24) (zv := .lst true []) (xs:=((qq k).map A).map fun r=>[lRel r]) [lRel (A k)] R zSi zSi zSi rfl rfl zOm zOm ?_ bq ?_ ?_ ?_ zSo ?_
   .rcases ho with h|⟨b,h,hc⟩
    .exact .inl h
    .exact .inr ⟨b,h,by rw[P b (bq b (by rw[h];rfl))];exact hc⟩
   .exact ⟨Own.rd (Ys cx fun b h=>by cases h;exact qo _) (vh _).ok fun r hr c hc=>by
     obtain⟨n,_,rfl⟩:=qi.1 hr;exact Zy n c hc,trivial⟩
   .intro r hr
    obtain⟨n,_,rfl⟩:=qi.1 hr;exact⟨rfl,rfl⟩
   .intro r hr
    simp at hr;subst hr;exact⟨rfl,rfl⟩
   intro aj ak a1 a8 b6 cu dn;have g1:ak[1]?=some (.arr [lI sc.sC,aI N,s,aI loop]):=by rw[a8 1 zOm zOm (fun h=>zW1 (bb 1 h))];exact b7
   have g0:ak[0]?=some (.arr [.lst true [],aI 0,.lst true [],aI 0]):=by rw[a8 0 zOm zOm (fun h=>zW1 (bb 0 h)),P 0 zOm];exact h0
   have l1:=(qg.1 g1).1;simp[go_sem,f11,f24,g1,w1,Own.one a1,Own.cells a1]
   try refine⟨bo,aK ?_⟩
   try refine aK ?_
   refine⟨zS1 f2,zS1 f4,zS1 f5,zS1 f10,zS1 f11,zS1 f23,zSi,aj,zS1 g0,zS1 l1,?_,fun b h=>zW1 (b6 b h)⟩;rw[List.range_succ,q9,q9];simpa[go_sem] using Own.set a1 (.arr [lI sc.sC,aI N,aj,aI loop]) (fun h=>zW1 (b6 1 h))
 .have al:k=N:=by omega
  subst al;have cy:s.one=true:=Own.one ho;have dp:s.cells=[s]:=Own.cells ho;have cj:∀ c,(U.mu.set 0 c)[0]?=some c:=fun c=>qI cm
  simp[go_sem,ck,cl,bm,bn,h0,h1,cy,cj];have cz:=Own.set ho (i:=0) (.arr [lI sc.sC,aI k,s,aI loop]) (fun h=>zW1 (bb 0 h));refine Rd.aggs ⟨.hf _ (zh _),.hf _ (HF.sc _),?_,.hf _ (HF.sc _),trivial⟩;exact Own.rd cz (fun r hr=>by
   obtain⟨n,_,rfl⟩:=qi.1 hr;rfl) fun r hr c hc=>by
   obtain⟨n,_,rfl⟩:=qi.1 hr;simp at hc;subst hc;exact Jt n
end GU
namespace GY
open YF P1 E3 GF GG GH GS GU
section
variable {J:Type}
def subs:List J->List J->List (List J)
 |c,[]=>[c]
 |c,a :: r=>subs c r++subs (c++[a]) r
theorem UF:∀(r c:List J),(subs c r).length=2 ^ r.length
 | [],c=>rfl
 |a :: r,c=>by rw[subs,qX,UF r,UF r,zz,Nat.pow_succ];omega
theorem ZN:∀(r c x:List J),x∈subs c r↔∃ y,y.Sublist r/\x=c++y
 | [],c,x=>by simp[subs]
 |a :: r,c,x=>by
  rw[subs,qH,ZN r,ZN r];constructor
  .rintro (⟨y,h,rfl⟩|⟨y,h,rfl⟩)
   .grind
   simp_all
  .rintro ⟨y,h,rfl⟩
   cases h with
   |cons _ h=>grind
   |cons_cons _ h=>grind
theorem Yv:∀ r c,subL (c.map rC) (r.map rC)=(subs c r).map (List.map rC)
 | [],c=>rfl
 |a :: r,c=>by
  rw[zT,subL,subs,q9,Yv r c,show c.map rC++[rC a]=(c++[a]).map rC by simp,Yv r]
def deI:AV->Int
 | .sc (.int _ n)=>n
 |_=>0
def deC:List AV->Ch
 | [a,b,c]=>(deI a,deI b,deI c)
 |_=>(0,0,0)
theorem qaJ(c:List Ch):(c.map rC).map deC=c:=by
 rw[List.map_map];exact(List.map_congr_left fun x _=>rfl).trans (List.map_id c)
def vM(sc:Sc)(g:List Bool)(i:List Bd)(j:List Ch)(N:Nat):List Md:=(qq N).flatMap fun k:Nat=>(subs [] j).map fun c=>yI sc g i c N (k:Int)
theorem qaK(sc g i j N):vq (fun k c=>yI sc g i (c.map deC) N (k:Int)) (j.map rC) N=vM sc g i j N:=by
 unfold vq vM;congr 1;funext s;rw[show ([]:List (List AV))=([]:List Ch).map rC from rfl,Yv,List.map_map];exact List.map_congr_left fun c _=>by simp only[Function.comp_apply,qaJ]
theorem qmX(sc i j g N):(vM sc i j g N).length=N*2 ^ g.length:=by
 rw[<-qaK,Ko,show ([]:List (List AV))=([]:List Ch).map rC from rfl,Yv,zK,UF]
theorem Ks{sc j l o N m}:m∈vM sc j l o N↔∃(k:Nat) (c:List Ch),k<N/\c.Sublist o/\m=yI sc j l c N k:=by
 simp only[vM,uK,zW,qi];constructor
 .rintro ⟨k,g,c,i,rfl⟩
  obtain⟨y,p,rfl⟩:=(ZN _ _ _).1 i;exact⟨k,_,g,p,rfl⟩
 .rintro ⟨k,c,g,i,rfl⟩
  exact⟨k,g,c,(ZN _ _ _).2 ⟨c,i,rfl⟩,rfl⟩
theorem qmY(l:List Ch):w7 (l.map rC):=fun r i=>by
 obtain⟨n,_,rfl⟩:=qi.1 i;exact⟨rfl,rfl,fun c g=>by simp at g;rcases g with rfl|rfl|rfl<;>exact HF.sc _⟩
theorem qmZ(ts)(sc:Sc)(g)(N:Nat)(I:sc.sN=N)(J:N<=4)(T:g.length<=1000)(U:∀ x,x∈g->Qa x)(hi:∀ x,x∈g->qaI x)(j:g.length<=ts.sA.length)(l:(qv g 0).length<=100000)
  (o:(chs (vsT ts) (qv g 0) N).length<=14) (p:N*2 ^ (chs (vsT ts) (qv g 0) N).length<=16384)
  (h1:qd qb 31 [eTS ts,eSc sc] (aB true)) (h2:qd qb 32 [eTS ts,eSc sc,lBd g] (aB true)) :
  qd qb 9 [eTS ts,eSc sc,lBd g] (.tup [lMd (vM sc (vsT ts) g (chs (vsT ts) (qv g 0) N) N),aI 0]):=by
 rw[<-qaK];generalize r:chs (vsT ts) (qv g 0) N=i at *
 have P:=qaE ts sc g N I J T U j l;rw[r]at P;have t:(subL [] (i.map rC)).length=2 ^ i.length:=by
  rw[show ([]:List (List AV))=([]:List Ch).map rC from rfl,Yv,zK,UF]
 refine qmS ts sc g (i.map rC) _ N I J (qmY i) (zUs o) (by rw[t];omega) (zUs p) h1 h2 P fun k hk c R=>?_
 rw[show ([]:List (List AV))=([]:List Ch).map rC from rfl,Yv]at R;obtain⟨c',C,rfl⟩:=qi.1 R;obtain⟨y,hy,rfl⟩:=(ZN _ _ _).1 C;rw[qaJ]
 grind [qmW]
end
end GY
namespace GN
open E3
instance:DecidableEq Sc:=fun a b=>decidable_of_iff (a.sC=b.sC/\a.sN=b.sN) (by
 obtain⟨a1,a2⟩:=a;obtain⟨b1,b2⟩:=b;simp)
instance:DecidableEq Md:=fun a b=>decidable_of_iff (a.sc=b.sc/\a.sK=b.sK/\a.loop=b.loop) (by
 obtain⟨a1,a2,a3⟩:=a;obtain⟨b1,b2,b3⟩:=b;simp)
end GN
namespace GV
open Y1 YF P1 E3 EO EQ F1 F4 GF GH GR GS
def modG(i:Md->Bool×Int):List Md->List Md->List Md×Int
 |g,[]=>(g,0)
 |g,m :: l=>if (i m).2≠0 then ([],(i m).2) else modG i (if (i m).1=true then g++[m] else g) l
def modV(i:Md->Bool×Int)(L:List Md)(g:Int):List Md×Int:=if g≠0 then ([],g) else modG i [] L
theorem qaL(l):HF (lMd l):=HF.lst fun r i c g=>by
 obtain⟨n,_,rfl⟩:=qi.1 i;simp at g;rcases g with rfl|rfl|rfl|rfl<;>first|exact HF.sc _|exact zh _|exact JM _
theorem qm0(ts sc bs n L e0 J)(hl:L.length<=1000000)
  (hI:qd qb 9 [eTS ts,eSc sc,lBd bs] (.tup [lMd L,aI e0]))
  (hH:∀ m,m∈L->qd qb 11 [eTS ts,eMd m,eNd n] (.tup [aB (J m).1,aI (J m).2])) :
  qd qb 10 [eTS ts,eSc sc,lBd bs,eNd n] (.tup [lMd (modV J L e0).1,aI (modV J L e0).2]):=by
 refine qSU call10 func10 rfl ?_;refine tC hI (.zk (zl _) (.zk (zA _) (.zk (zZ _) .nil))) ?_;have a8:∀(l:List Md)(e:Int),HF (.tup [lMd l,aI e]):=fun l e=>HF.tup (by simp only[qt,qF,or_false,forall_eq_or_imp,forall_eq];exact⟨qaL _,HF.sc _⟩)
 have a2:∀(C:Mu)(e:Int),Rd C (.tup [.lst true [],aI e]) (.tup [lMd [],aI e]):=fun C e=>by
  refine .tup _ _ rfl fun j x y I T=>?_
  match j with
  | 0=>simp at I T;subst I;subst T;exact .wk _ true _ (.hf _ (HF.lst fun r hr=>by simp at hr))
  | 1=>simp at I T;subst I;subst T;exact .zsc _
  |j+2=>simp at I
 by_cases a4:e0=0
 case neg =>
  simp[go_sem,a4,modV];exact a2 _ _
 subst a4;have a5:modV J L 0=modG J [] L:=by simp[modV]
 rw[a5];generalize hR:modG J [] L=R;simp[go_sem];refine kT L.length (fun k U=>U.tm 4 = .ip (cTS ts)/\U.tm 5 = .ip [lI sc.sC,aI sc.sN]/\U.tm 7 = .ip (cNd n)/\U.tm 27=lMd L/\U.tm 28=aI L.length/\U.tm 29=aI k/\∃ o,modG J o (L.drop k)=R/\o.length<=k/\Own U.mu 4 (U.tm 12) (o.map cMd)) ?_ ?_
 .exact ⟨zSi,zSi,zSi,zSi,zSi,zSi,[],zUs hR,zSp,.inl zSi⟩
 rintro k U hk ⟨e4,e5,e7,a3,a0,a1,o,P,a9,ho⟩;by_cases t:k<L.length
 .have w1:=zWk k
  have hh:=hH _ (qn t);rw[zm t,modG]at P;simp[go_sem,e4,e7,a3,a0,a1,t];refine tC hh (.zk (zl _) (.zk (zr _) (.zk (qJ _) .nil))) ?_;by_cases he:(J L[k]).2=0
  case neg =>
   rw[if_pos he]at P;subst P;simp[go_sem,he];exact a2 _ _
  rw[if_neg (fun h=>h he)]at P;cases hb:(J L[k]).1 with
  |false =>
   rw[hb]at P;simp[go_sem,a1,t,he,w1]
   try refine⟨t,aK ?_⟩
   try refine aK ?_
   exact⟨zS1 e4,zS1 e5,zS1 e7,zS1 a3,zS1 a0,zSi,o,zUs P,zOm,by simpa[go_sem] using Own.push ho _⟩
  |true =>
   rw[hb,if_pos rfl]at P;simp[go_sem,he];refine qu.ownB (e:=43) (sz:=4) (bt:=64) (zv := .agg [.lst true [],aI 0,.lst true [],aI 0]) (xs:=o.map cMd) (ys:=[cMd L[k]]) zSi zSi zSi rfl rfl zOm zOm (Own.push ho _) (by simp[qz]) (Zc _) (Zc [_]) zSo ?_;intro aa ab a6 _ _ _;simp[go_sem,a1,t,w1]
   try refine⟨t,aK ?_⟩
   try refine aK ?_
   exact⟨zS1 e4,zS1 e5,zS1 e7,zS1 a3,zS1 a0,zSi,o++[L[k]],P,zSo,by rw[q9];simpa[go_sem] using a6⟩
 .have a7:k=L.length:=by omega
  subst a7;rw[yh,modG]at P;subst P;simp[go_sem,a0,a1];refine .tup _ _ rfl fun j x y I T=>?_
  match j with
  | 0=>simp at I T;subst I;subst T;exact cB ho
  | 1=>simp at I T;subst I;subst T;exact .zsc _
  |j+2=>simp at I
def mdZ:Md:=⟨⟨[],0⟩,[],0⟩
theorem qm1(mu):Rd mu (.agg [.lst true [],aI 0,.lst true [],aI 0]) (eMd mdZ):=
 Rd.aggs ⟨.wk _ true _ (.hf _ (HF.lst fun r g=>by simp at g)),.hf _ (HF.sc _),.wk _ true _ (.hf _ (HF.lst fun r g=>by simp at g)),.hf _ (HF.sc _),trivial⟩
end GV
namespace GW
open YF P1 E1 E4 E9 EL EO ER EW GA GF G5 GQ GR
theorem qaM:∀ l x i,0<=x->u4 l x i = -1\/∃(j:Nat) (h:j<l.length),u4 l x i=i+j/\0<=x-sumI (l.take j)/\x-sumI (l.take j)<l[j]
 | [],x,i,_ => .inl rfl
 |a :: l,x,i,h=>by
  rw[u4];by_cases g:x<a
  .grind [sumI]
  .rw [if_neg g]
   rcases qaM l (x-a) (i+1) zOm with e|⟨j,o,p,r,t⟩
   .exact .inl e
   .refine .inr ⟨j+1,zUs o,by rw[p];push_cast;omega,?_,?_⟩
    .simp only[List.take_succ_cons,sumI,List.foldr_cons]at r⊢;omega
    .simp only[List.take_succ_cons,sumI,List.foldr_cons,List.getElem_cons_succ]at t⊢;omega
def J6(n:Int)(ds:List Int)(p:Int):Int:=ds.foldl (fun p d=>p*n+d) p
theorem qaN(n)(i:0<n):∀ k r,0<=r->r<n ^ k->J6 n (digs n k r) 0=r
 | 0,r,j,g=>by
  have:r=0:=by rw[Int.pow_zero]at g;omega
  subst this;rfl
 |k+1,r,j,g=>by
  have l:r / n<n ^ k:=Int.ediv_lt_of_lt_mul i (by rw[<-Int.pow_succ];exact g);rw[digs,J6,vy];show J6 n (digs n k (r / n)) 0*n+r % n=r;rw[qaN n i k (r / n) (Int.ediv_nonneg j zOm) l,Int.mul_comm];exact Int.mul_ediv_add_emod r n
theorem qaO(sc)(J:∀ a,a∈sc.sC->0<=a):∀(l ds:List Int)(p),ds.length=l.length->(∀ s,s∈l->0<=s)->(∀(i h)(h2:i<l.length),0<=ds[i]/\uC sc ds[i]=l[i])->J6 (sumI sc.sC) ds p∈tupR sc l p
 | [],[],p,_,_,_=>by simp[tupR,J6]
 |s :: l,d :: ds,p,o,I,h=>by
  rw[tupR,uK];obtain⟨r,g⟩:=h 0 zSp zSp;simp only[List.getElem_cons_zero]at r g;have P:=I s zSp;rcases qaM sc.sC d 0 r with e|⟨j,R,T,e2,e3⟩
  .rw [uC,e]at g;omega
  .rw [uC,T]at g
   have t:s.toNat=j:=zOm;have U:gI sc.sC s.toNat=sc.sC[j]:=by rw[t];exact uu R
   refine⟨(d-sumI (sc.sC.take j)).toNat,zW.2 (by rw[U];omega),?_⟩;have:=qaO sc J l ds (p*sumI sc.sC+d) (zUs o) (fun s hs=>I s (zP1 hs)) (fun i hi C=>h (i+1) (zUs hi) (zUs C));rw[t,show sumI (sc.sC.take j)+((d-sumI (sc.sC.take j)).toNat:Int)=d by omega];exact this
 | [],_ :: _,_,o,_,_=>by simp at o
 |_ :: _,[],_,o,_,_=>by simp at o
theorem qm2(sc)(g:GSc sc)(C:0<sumI sc.sC)(l:List Int)(J:l.length<=3)(P:∀ s,s∈l->0<=s/\s<sc.sC.length):∀ x,x∈yA sc l->x∈tupR sc l 0:=fun x I=>by
 have j:=g.sum sc.sC.length;rw[qO]at j;have R:=Ym (sumI sc.sC) j.1 j.2 l.length J;unfold yA j9 at I;obtain⟨r,T,rfl⟩:=qi.1 I;obtain⟨U,h2⟩:=List.mem_filter.1 T;rw[zW]at U;have o:(r:Int)<sumI sc.sC ^ l.length:=zOm;have hf:=qaN (sumI sc.sC) C l.length r zOm o;have hm:=qaO sc (fun a ha=>(g.2 a ha).1) l (digs (sumI sc.sC) l.length r) 0 (Yn _ _ _) (fun s p=>(P s p).1) (fun i hi t=>?_)
 .grind
 .have hd:=XK (sumI sc.sC) C j.2 l.length r _ (qn hi)
  refine⟨hd.1,?_⟩;have:=Xa.1 h2 i t
  grind [uu]
theorem Kt(ts sc)(F:Fit9 ts sc)(t:yW sc=true):qd qb 31 [eTS ts,eSc sc] (aB true):=by
 have I:=F.g;simp only[yW,qD,decide_eq_true_eq,List.all_eq_true]at t;obtain⟨h1,J,P,R,T⟩:=t;have o:=F.ns;refine qSV call31 func31 rfl ?_;have n1:¬(4:Int)<sc.sC.length:=zOm;simp[go_sem,n1,o];have C:=fun a b c:Int=>Yl a b c
 refine tC (C sc.sN 1 4) (wk3I _ _ _) ?_;simp[go_sem,J,P];refine kT sc.sC.length (fun k U=>U.tm 2 = .ip (cTS ts)/\U.tm 3 = .ip [lI sc.sC,aI sc.sN]/\U.tm 27=lI sc.sC/\U.tm 28=aI sc.sC.length/\U.tm 29=aI k) ?_ ?_
 .simp [go_sem, *]
 rintro k U hk ⟨e2,e3,p,i,j⟩;by_cases l:k<sc.sC.length
 .have w1:=zWk k
  have ha:=R _ (qn l);simp[go_sem,p,i,j,l];refine tC (C sc.sC[k] 1 5) (wk3I _ _ _) ?_;simp_all[go_sem,aK]
 .have r:k=sc.sC.length:=by omega
  simp[go_sem,e3,i,j,r];refine tC (Yh sc I) (.zk (zA sc) .nil) ?_;simp[go_sem,T];exact .zsc _
theorem qm3(n)(r:Rl)(T:0<=n)(a0:n<=12)(k:Nat)(hk:r.ar=k)(k1:1<=k)(k3:k<=3)(hl:r.ts.length<=1000000000)(hs:r.ts.Pairwise (·<·))(ht:∀ t,t∈r.ts->0<=t/\t<n ^ k):qd qb 68 [aI n,eRel r] (aB true):=by
 have C:=nD n T zOm k k3;refine qSV call68 func68 rfl ?_;have n1:¬n<0:=zOm;have n2:¬ 12<n:=zOm;have n3:¬r.ar<1:=zOm;have n4:¬ 3<r.ar:=zOm;simp[go_sem,n1,n2,n3,n4];refine kT r.ts.length (fun j U=>U.tm 0=aI n/\U.tm 3 = .ip [aI r.ar,lI r.ts]/\U.tm 25=lI r.ts/\U.tm 26=aI r.ts.length/\U.tm 27=aI j/\∃ last:Int,U.tm 5=aI last/\∀(i:Nat)(h:i<r.ts.length),j<=i->last<r.ts[i]) ?_ ?_
 .exact ⟨zSi,zSi,zSi,zSi,zSi,-1,zSi,fun i h _=>by grind [qn]⟩
 rintro j U hj ⟨P,R,p,l,o,last,e5,I⟩;by_cases g:j<r.ts.length
 .have w1:=zWk j
  have a1:=I j g (qo _);have a2:=ht _ (qn g);have m1:¬r.ts[j]<=last:=zOm;have m2:¬n ^ k<=r.ts[j]:=zOm;simp[go_sem,P,R,p,l,o,e5,g,m1];refine tC C (by rw[hk];exact .zs (.zs .nil)) ?_;simp[go_sem,o,g,m2,w1]
  try refine⟨g,aK ?_⟩
  try refine aK ?_
  exact⟨zS1 P,zS1 R,zS1 p,zS1 l,zSi,r.ts[j],zSi,fun i h hi=>List.pairwise_iff_getElem.1 hs j i g h zOm⟩
 .have J:j=r.ts.length:=by omega
  simp[go_sem,l,o,J];exact .zsc _
structure BndV (ts:TS) (sc:Sc) (bs:List Bd):Prop where
 len:bs.length=ts.sA.length
 lo:∀(i:Nat)(h:i<bs.length)(h2:i<ts.sA.length),bs[i].lo.ar=ts.sA[i].sS.length/\bs[i].up.ar=ts.sA[i].sS.length
 so:∀ b,b∈bs->b.lo.ts.Pairwise (·<·)/\b.up.ts.Pairwise (·<·)
 sub:∀ b,b∈bs->∀ t,t∈b.lo.ts->t∈b.up.ts
 full:∀(i:Nat)(h:i<bs.length)(h2:i<ts.sA.length),∀ t,t∈bs[i].up.ts->t∈yA sc ts.sA[i].sS
theorem qaP{a b}(h:∀ t,t∈a.ts->t∈b.ts):(diR a b).ts=[]:=by
 grind [diR,List.filter_eq_nil_iff]
theorem qaQ(sc l):∀ t,t∈yA sc l->0<=t/\t<(sumI sc.sC ^ l.length).toNat:=fun t g=>qj5 _ _ _ t g
theorem qaR(sc)(g:GSc sc)(l)(j:l.length<=3):(yA sc l).length<=8000:=by
 have i:=g.sum sc.sC.length;rw[qO]at i;have o:=Ym (sumI sc.sC) i.1 i.2 l.length j;refine zt (XL _ _ _) ?_;omega
theorem Zd{a b:List Int}(g:a.Pairwise (·<·))(h:∀ t,t∈a->t∈b):a.length<=b.length:=jL (qiU g) h
theorem relT(ts sc)(F:Fit9 ts sc)(l:sumI sc.sC<=12)(f)(hf:f∈ts.sA)(r:Rl)(o:r.ar=f.sS.length)(C:r.ts.Pairwise (·<·))(i:∀ t,t∈r.ts->t∈yA sc f.sS):qd qb 68 [aI (sumI sc.sC),eRel r] (aB true)/\r.ts.length<=8000:=by
 have R:=Zd C i;have I:=qaR sc F.g f.sS (F.f1 f hf).2;have T:=F.p;have j:=F.g.sum sc.sC.length;rw[qO]at j;have J:=Ym (sumI sc.sC) j.1 j.2 f.sS.length (F.f1 f hf).2;exact⟨qm3 _ r zOm l f.sS.length o (F.f1 f hf).1 (F.f1 f hf).2 zOm C fun t P=>zW1 (qaQ sc f.sS t (i t P)),zOm⟩
theorem qm4(ts sc)(F:Fit9 ts sc)(f)(hf:f∈ts.sA)(r)(J:r.ts.length<=8000)(i:∀ t,t∈r.ts->t∈yA sc f.sS):qd qb 48 [eRel r,eRel ⟨f.sS.length,tupR sc f.sS 0⟩] (aB true):=by
 have j:=XG sc F.g (fun a l=>(F.g.2 a l).1) f.sS (F.fs f hf) 0;have o:=(F.f1 f hf).2;have C:(20:Nat) ^ f.sS.length<=8000:=by
  rcases (show f.sS.length=0\/f.sS.length=1\/f.sS.length=2\/f.sS.length=3 by omega) with e|e|e|e<;>rw[e]<;>decide
 have h:=inU r ⟨f.sS.length,tupR sc f.sS 0⟩ zOm (by grind)
 rwa[qaP fun t I=>qm2 sc F.g F.p f.sS o (F.fs f hf) t (i t I),decide_eq_true rfl]at h
theorem qm5(fs:List Fld)(l)(J:l.length=fs.length)(hn:fs.length<=1000000)(r g caps)(t:r = .fn (.func g) [] caps)(P:HF r)
  (h:∀(i h1)(h2:i<l.length),∃ args',WKs ([W8 fs[i],eBd l[i]]++caps) args'/\qd qb g args' (aB true)) :
  qd qb 66 [.lst false (fs.map vG),lBd l,r] (aB true):=by
 subst t;refine qSV call66 func66 rfl ?_;simp[go_sem,J];refine kT fs.length (fun k U=>U.tm 0 = .lst false (fs.map vG)/\U.tm 1=lBd l/\U.tm 2 = .fn (.func g) [] caps/\U.tm 14=aI fs.length/\U.tm 15=aI k) ?_ ?_
 .simp [go_sem, *]
 rintro k U hk ⟨R,T,e2,o,p⟩;by_cases j:k<fs.length
 .have w1:=zWk k
  obtain⟨args',hw,hc⟩:=h k j zOm;have C:k<l.length:=zOm;simp[go_sem,o,p,j];refine cZ zKr ?_;simp[go_sem,R,T,e2,j,C];refine fW hc (zUs hw) ?_;simp_all[go_sem,aK]
 .have I:k=fs.length:=by omega
  simp[go_sem,o,p,I];exact .zsc _
theorem qaS(ts sc l)(F:Fit9 ts sc)(a0:sumI sc.sC<=12)(B:BndV ts sc l):qd qb 32 [eTS ts,eSc sc,lBd l] (aB true):=by
 have a8:=F.nf;have a4:∀(i:Nat)(T:i<ts.sA.length)(U:i<l.length),qd qb 67 [W8 ts.sA[i],eBd l[i],.ip [aI (sumI sc.sC)],.ip [lI sc.sC,aI sc.sN]] (aB true):=fun i T U=>by
  obtain⟨a1,a2⟩:=B.lo i U T;have o:=qn T;have J:=qn U;obtain⟨s1,s2⟩:=B.so _ J;have P:=B.full i U T;have a5:∀ t,t∈l[i].lo.ts->t∈yA sc ts.sA[i].sS:=fun t ht=>P t (B.sub _ J t ht)
  obtain⟨v1,l1⟩:=relT ts sc F a0 _ o l[i].lo a1 s1 a5;obtain⟨v2,l2⟩:=relT ts sc F a0 _ o l[i].up a2 s2 P;have i1:=inU l[i].lo l[i].up zOm zOm;rw[qaP (B.sub _ J),decide_eq_true rfl]at i1;have i2:=qm4 ts sc F _ o l[i].up l2 P;have a6:=EW.nR sc F.g (fun a ha=>(F.g.2 a ha).1) ts.sA[i].sS (F.fs _ o) (F.f1 _ o).1 (F.f1 _ o).2;have w2:∀ r:Rl,WKs [aI (sumI sc.sC),eRel r] [aI (sumI sc.sC),eRel r]:=fun r => .zs (.zk (qK _) .nil)
  have wr:∀(r:Rl)(x:Int),r.ar=x->WK (.agg [aI x,lI r.ts]) (eRel r):=fun r x e=>by subst e;exact .hf (qK r)
  have wa:=wr l[i].lo _ a1;have wb:=wr l[i].up _ a2;refine qSV call67 func67 rfl ?_;simp[go_sem,a1,a2];refine tC v1 (.zs (.cons wa .nil)) ?_;simp[go_sem,a2];refine fR v2 (.zs (.cons wb .nil)) ?_;refine cZ zKr ?_;simp[go_sem,a1,a2];refine tC i1 (.cons wa (.cons wb .nil)) ?_;simp[go_sem,a2];refine fR a6 (.zk (zA _) (.zk (zh _) .nil)) ?_;refine fR i2 (.cons wb (.zk (qK _) .nil)) ?_;exact .zsc _
 have j:HF (.ip [lI sc.sC,aI sc.sN]):=HF.ip fun c C=>by simp at C;rcases C with rfl|rfl;exact zh _;exact HF.sc _
 have I:HF (.ip [aI (sumI sc.sC)]):=HF.ip fun c C=>by grind [HF.sc]
 have a3:HF (.fn (.func 67) [] [.ip [aI (sumI sc.sC)],.ip [lI sc.sC,aI sc.sN]]):=HF.fn (fun c C=>by simp at C) (fun c C=>by simp at C;rcases C with rfl|rfl;exact I;exact j);have p:=qm5 ts.sA l B.len zOm _ _ _ rfl a3 fun i T U=>⟨_,by simpa using WKs.zk (qhT _) (.zk (J2 _) (.zk I (.zk j .nil))),a4 i T U⟩
 refine qSU call32 func32 rfl ?_;refine fR (Yh sc F.g) (.zk (zA sc) .nil) ?_;refine fQ (qy.freeze (args1:=[.lst false (ts.sA.map vG),lBd l,.fn (.func 67) [] [.ip [aI (sumI sc.sC)],.ip [lI sc.sC,aI sc.sN]]]) (fun _=>true) ⟨.inl rfl,.inl rfl,.inr ?_,trivial⟩ (qd.toSound _ p (.zk (Yf ts.sA) (.zk (zZ _) (.zk a3 .nil))))) ?_ ?_
 .refine .fn _ _ _ _ _ rfl rfl (fun k x y R hy=>by simp at R) (fun k x y R hy=>?_)
  match k with
  | 0=>simp at R hy;subst R;subst hy;exact ER.Rd.ip1 (x:=aI (sumI sc.sC)) (by simp[cutM]) (.hf _ (HF.sc _))
  | 1=>simp at R hy;subst R;subst hy;exact .hf _ j
  |k+2=>simp at R
 .rintro r m ⟨h,rfl⟩
  cases h;simp[go_sem];exact .zsc _
 grind
end GW
namespace IT
open YF P1 EO GH GR ER
theorem qm6(a b g)(hf:HF g)(h:¬a.length=b.length):qd qb 66 [lFl a,lBd b,g] (aB false):=by
 have i:¬(a.length:Int)=b.length:=zOm;refine qSV call66 func66 rfl ?_;simp[go_sem,h,i];exact .zsc _
theorem qm7(ts sc)(F:Fit9 ts sc)(I)(h:¬ts.sA.length=I.length):qd qb 32 [eTS ts,eSc sc,lBd I] (aB false):=by
 have i:HF (.ip [lI sc.sC,aI sc.sN]):=HF.ip fun c j=>by simp at j;rcases j with rfl|rfl;exact zh _;exact HF.sc _
 have p:HF (.ip [aI (sumI sc.sC)]):=HF.ip fun c j=>by simp at j;subst j;exact HF.sc _
 have t:HF (.fn (.func 67) [] [.ip [aI (sumI sc.sC)],.ip [lI sc.sC,aI sc.sN]]):=HF.fn (fun c j=>by simp at j) (fun c j=>by simp at j;rcases j with rfl|rfl;exact p;exact i);have l:=qm6 ts.sA I _ t h;refine qSU call32 func32 rfl ?_;refine fR (Yh sc F.g) (.zk (zA sc) .nil) ?_;refine fQ (qy.freeze (args1:=[.lst false (ts.sA.map vG),lBd I,.fn (.func 67) [] [.ip [aI (sumI sc.sC)],.ip [lI sc.sC,aI sc.sN]]]) (fun _=>true) ⟨.inl rfl,.inl rfl,.inr ?_,trivial⟩ (qd.toSound _ l (.zk (Yf ts.sA) (.zk (zZ _) (.zk t .nil))))) ?_ ?_
 .refine .fn _ _ _ _ _ rfl rfl (fun k x y o C=>by simp at o) (fun k x y o C=>?_)
  match k with
  | 0=>simp at o C;subst o;subst C;exact ER.Rd.ip1 (x:=aI (sumI sc.sC)) (by simp[cutM]) (.hf _ (HF.sc _))
  | 1=>simp at o C;subst o;subst C;exact .hf _ i
  |k+2=>simp at o
 .rintro r m ⟨h,rfl⟩
  cases h;simp[go_sem];exact .zsc _
 .rintro r m ⟨h,_⟩
  cases h
theorem rdE(mu e):Rd mu (.tup [.lst true [],aI e]) (.tup [lMd [],aI e]):=by
 refine .tup _ _ rfl (fun k u v g i=>?_)
 match k with
 | 0=>simp at g i;subst g;subst i;exact .wk _ true _ (.hf _ (HF.lst fun r j=>absurd j qF))
 | 1=>simp at g i;subst g;subst i;exact .zsc _
 |k+2=>simp at g
theorem qm8(ts sc g)(i:qd qb 31 [eTS ts,eSc sc] (aB true))(j:qd qb 32 [eTS ts,eSc sc,lBd g] (aB false)) :
  qd qb 9 [eTS ts,eSc sc,lBd g] (.tup [lMd [],aI 1]):=by
 refine qSU call9 func9 rfl ?_;refine fR i (.zk (zl _) (.zk (zA _) .nil)) ?_;refine fR j (.zk (zl _) (.zk (zA _) (.zk (zZ _) .nil))) ?_;exact rdE _ 1
theorem qm9(ts sc g cs)(p:14<cs.length)(j:qd qb 31 [eTS ts,eSc sc] (aB true))(l:qd qb 32 [eTS ts,eSc sc,lBd g] (aB true))(o:qd qb 33 [eTS ts,eSc sc,lBd g] (.lst false cs)) :
  qd qb 9 [eTS ts,eSc sc,lBd g] (.tup [lMd [],aI 2]):=by
 refine qSU call9 func9 rfl ?_;refine fR j (.zk (zl _) (.zk (zA _) .nil)) ?_;refine fR l (.zk (zl _) (.zk (zA _) (.zk (zZ _) .nil))) ?_;refine tC o (.zk (zl _) (.zk (zA _) (.zk (zZ _) .nil))) ?_;have i:(14:Int)<cs.length:=zOm;simp[go_sem,i];exact rdE _ 2
end IT
namespace YZ
open YM P1 Y1 Y9 YX
mutual
def depN:Nd->Int
 | .mk _ _ _ ks _=>yn ks+1
def yn:List Nd->Int
 | []=>0
 |k :: ks=>max (depN k) (yn ks)
end
mutual
theorem qnA:∀ n:Nd,0<=depN n
 | .mk _ _ _ ks _=>by simp only[depN];have:=UG ks;omega
theorem UG:∀ ks:List Nd,0<=yn ks
 | []=>by simp[yn]
 |k :: ks=>by simp only[yn];have:=UG ks;omega
end
theorem Ze(n):depN n=yn n.sD+1:=by
 obtain⟨op,o,i,ks,p⟩:=n;simp[depN,Nd.sD]
theorem qaT{ks k}(h:k∈ks):depN k<=yn ks:=by
 induction ks with
 |nil=>simp at h
 |cons a l g =>
  simp only[yn];rcases qt.1 h with rfl|h
  .omega
  .have:=g h;omega
theorem qaU:∀ m n,szN n<=m->Small n->depN n<=1000000->qd qb 81 [eNd n] (aI (depN n))
 | 0,n,I,_,_=>by obtain⟨op,nm,i,ks,p⟩:=n;simp[szN]at I
 |m+1,n,I,J,P=>by
  have ih:∀ k,k∈n.sD->qd qb 81 [eNd k] (aI (depN k)):=fun k j =>
   qaU m k (zW1 (ym j)) (J.kid j) (by rw[Ze]at P;have:=qaT j;omega)
  rw[Ze]at P⊢;have R:=J.len;have a0:=UG n.sD;generalize hD:yn n.sD=D at *
  refine qSU call81 func81 rfl ?_;refine kT n.sD.length (fun k U=>∃ d,U.tm 3=aI d/\U.tm 7=lNd n.sD/\U.tm 8=aI n.sD.length/\U.tm 9=aI k/\0<=d/\max d (yn (n.sD.drop k))=D) ?_ ?_
  .exact ⟨0,zSi,zSi,zSi,zSi,zOm,by simp only[List.drop_zero,hD];omega⟩
  .rintro k U j ⟨d,T,e7,o,r,a1,l⟩
   by_cases t:k=n.sD.length
   .subst t
    rw[yh]at l;simp only[yn]at l;have C:d=D:=zOm;subst C;have w:qm.wrap (d+1)=d+1:=zWr;simp[go_sem,T,o,r,w];exact .zsc _
   .have g:k<n.sD.length:=by omega
    have w1:=zWk k;rw[zm g]at l;simp only[yn]at l;simp[go_sem,T,e7,o,r,g];refine tC (ih n.sD[k] (qn g)) (.zk (qJ _) .nil) ?_;simp[go_sem,r,w1];refine⟨g,aK ?_⟩;refine⟨if d<depN n.sD[k] then depN n.sD[k] else d,zSi,zS1 e7,zS1 o,zSi,?_,?_⟩
    .have:=qnA n.sD[k]
     split<;>omega
    .split<;>omega
mutual
def preN:Nd->List Nd
 | .mk op o n ks p => .mk op o n ks p :: zp ks
def zp:List Nd->List Nd
 | []=>[]
 |k :: ks=>preN k++zp ks
end
theorem u9(n):preN n=n :: zp n.sD:=by
 obtain⟨op,o,i,ks,p⟩:=n;simp[preN,Nd.sD]
theorem Yw(a b):zp (a++b)=zp a++zp b:=by
 induction a with
 |nil=>rfl
 |cons x a g=>simp[zp,g]
theorem Ku{f caps}(I:List Nd->Mu->Prop)(hp:∀ v mu l,I v mu->I v (mu++l))(hf:∀ v k mu,I v mu->qy qb f (eNd k :: caps) mu fun e m=>e = .ret (.tup [])/\I (v++[k]) m) :
  ∀ m n,szN n<=m->Small n->∀ v mu,I v mu->qy qb 74 [eNd n,.fn (.func f) [] caps] mu fun e m=>e = .ret (.tup [])/\I (v++preN n) m
 | 0,n,hm,_,_,_,_=>by obtain⟨op,nm,i,ks,p⟩:=n;simp[szN]at hm
 |m+1,n,hm,hs,v,mu,J=>by
  have ih:∀ k,k∈n.sD->∀ v mu,I v mu->qy qb 74 [eNd k,.fn (.func f) [] caps] mu fun e m=>e = .ret (.tup [])/\I (v++preN k) m:=fun k P v mu J =>
   Ku I hp hf m k (zW1 (ym P)) (hs.kid P) v mu J
  have a1:=hs.len;rw[u9];refine qSW call74 func74 rfl {} ?_;simp[go_sem];refine fY (hf v n mu J) ?_ (by rintro r m ⟨e,_⟩;cases e);rintro r m ⟨e,R⟩;cases e;simp[go_sem];refine kT n.sD.length (fun k U=>U.tm 1 = .fn (.func f) [] caps/\U.tm 10=lNd n.sD/\U.tm 11=aI n.sD.length/\U.tm 12=aI k/\I (v++[n]++zp (n.sD.take k)) U.mu) ?_ ?_
  .exact ⟨zSi,zSi,zSi,zSi,by simpa[go_sem,zp] using R⟩
  .rintro k U P ⟨e1,C,j,o,t⟩
   by_cases T:k=n.sD.length
   .subst T
    rw[qO]at t;simp[go_sem,j,o];simpa using t
   .have g:k<n.sD.length:=by omega
    have w1:=zWk k;simp[go_sem,e1,C,j,o,g];refine fQ (ih n.sD[k] (qn g) _ _ (hp _ _ _ t)) ?_ (by rintro r m ⟨e,_⟩;cases e);rintro r m ⟨e,a0⟩;cases e;simp[go_sem,o,w1];refine⟨g,aK ?_⟩;refine⟨zS1 e1,zS1 C,zS1 j,zSi,?_⟩;have e:zp (n.sD.take (k+1))=zp (n.sD.take k)++preN n.sD[k]:=by
     rw[List.take_add_one,qw g,Yw];simp[zp]
    rw[e,<-zy];simpa[go_sem] using a0
def setN(l:List tG)(b:tG):List (tG×Bool)->List (tG×Bool):=fun I=>setK b true I
abbrev eSet(es:List (tG×Bool)):List (AV×AV):=encK aS aB es
theorem updS{mu b es}(i:mu[b]?=some (.mp (eSet es)))(nm) :
  jB qb mu 141 (.mp b) (aS nm) (aB true)=some (mu.set b (.mp (eSet (setK nm true es)))):=
 keyS.update (et:=4) (t:=141) zSi (mu:=mu) (b:=b) (venc:=aB) (es:=es) i (k:=nm) (v:=true) trivial (fun _ _=>trivial)
theorem qnB(ts s tb c es n){mu p g xb}(r:mu[p]?=some (.arr [.ptr xb 0]))(t:mu[xb]?=some (.arr (cIn ts tb s)))(l:mu[g]?=some (.arr [aB c]))(j:mu[tb]?=some (.mp (eSet es))) :
  qy qb 75 [eNd n,.ptr p 0,.ptr g 0] mu fun e m=>e = .ret (.tup [])/\m=(mu.set tb (.mp (eSet (setK n.name true es)))).set g (.arr [aB (c||decide (n.op=47))]):=by
 refine qSW call75 func75 rfl {} ?_;have C:g<mu.length:=(qg.1 l).1;have I:tb<mu.length:=(qg.1 j).1;simp[go_sem];refine cZ zKr ?_;have J:=updS j n.name;simp[go_sem,r,t];refine tA _ J ?_;have o:tb≠g:=fun e=>by rw[e,l]at j;cases j
 generalize P:Cell.mp (eSet (setK n.name true es))=N at *
 have i:(mu.set tb N)[g]?=some (.arr [aB c]):=by rw[yu o];exact l
 cases c
 .simp [go_sem,i]
  try rfl
 .simp [go_sem,i]
  try rfl
theorem qnC(ts s tb es n){mu g xb}(j:mu[g]?=some (.arr [.ptr xb 0]))(l:mu[xb]?=some (.arr (cIn ts tb s)))(i:mu[tb]?=some (.mp (eSet es))) :
  qy qb 76 [eNd n,.ptr g 0] mu fun e m=>e = .ret (.tup [])/\m=mu.set tb (.mp (eSet (setK n.name true es))):=by
 refine qSW call76 func76 rfl {} ?_;have o:tb<mu.length:=(qg.1 i).1;simp[go_sem];refine cZ zKr ?_;have p:=updS i n.name;simp[go_sem,j,l];refine tA _ p ?_;simp[go_sem]
end YZ
namespace YA
open YM YS YF P1 Y1 Y9 Y10 YX YZ
def vN(k:Int):tG:=⟨#[118]⟩++jm k
theorem Kv(k)(g : -9223372036854775808<=k)(i:k<=9223372036854775807):(jm k).size<=21:=by
 have:=Lib.itoa_length_le k g i;unfold jm;simpa[ByteArray.size] using this
def yB(ts:TS)(es:List (tG×Bool))(nm:tG):Bool:=decide (getK nm es≠some true)&&decide (means ts nm=[])
def zq(ts:TS)(es:List (tG×Bool)):Nat->Int->Int
 | 0,k=>k+1
 |f+1,k=>if yB ts es (vN (k+1))=true then k+1 else zq ts es f (k+1)
theorem qnD{mu tb es}(i:mu[tb]?=some (.mp (eSet es)))(nm):yj qb mu 141 (.mp tb) (aS nm) false=some (aB (decide (getK nm es=some true))):=by
 have:=keyS.look (et:=4) (t:=141) zSi (mu:=mu) (m := .mp tb) (venc:=aB) (es:=es) (by simp only[jN,i]) (k:=nm) trivial (fun _ _=>trivial) (z:=aB false) zSi false;refine Eq.trans ?_ (this.trans ?_)
 .rfl
 .cases getK nm es with
  |none=>rfl
  |some b=>cases b<;>rfl
theorem qnE{mu:Mu}{b c}(h:mu[b]?=some c):mu.set b c=mu:=by
 apply List.ext_getElem?;intro i;by_cases e:b=i
 .subst e
  rw[qI (qg.1 h).1,h]
 .rw [yu e]
theorem qaV(ts)(h:okTS ts)(s:ISt)(F:Nat)(hs:0<=s.last/\s.last+F<=1000000000)(tb es)(T:∃ j,1<=j/\j<=F/\yB ts es (vN (s.last+j))=true){mu xb}(hx:mu[xb]?=some (.arr (cIn ts tb s)))(ht:mu[tb]?=some (.mp (eSet es))) :
  qy qb 170 [.ptr xb 0] mu fun e m=>e = .ret (aS (vN (zq ts es F s.last)))/\m=mu.set xb (.arr (cIn ts tb ⟨zq ts es F s.last,s.sM⟩)):=by
 refine qSW call170 func170 rfl {} ?_;have a0:xb<mu.length:=(qg.1 hx).1;have a3:tb≠xb:=fun e=>by rw[e,hx]at ht;cases ht
 simp[go_sem];generalize hR:zq ts es F s.last=R;refine tP (fun m U=>∃ l:Int,0<=l/\l+m<=1000000000/\U.tm 0 = .ptr xb 0/\U.mu=mu.set xb (.arr (cIn ts tb ⟨l,s.sM⟩))/\zq ts es m l=R/\∃ j:Nat,1<=j/\j<=m/\yB ts es (vN (l+j))=true) F ?_ ?_
 .refine ⟨s.last,hs.1,hs.2,zSi,?_,hR,T⟩
  simp only[go_sem,qA,st0];rw[show cIn ts tb ⟨s.last,s.sM⟩=cIn ts tb s from rfl];exact(qnE hx).symm
 .rintro m U ⟨l,a7,a8,C,hm,hI,j,a9,aa,r⟩
  obtain⟨m,rfl⟩:∃ m',m=m'+1:=⟨m-1,zOm⟩;have w1:qm.wrap (l+1)=l+1:=zWr;have t:∀ c,(mu.set xb c)[xb]?=some c:=fun c=>qI a0
  have a4:∀ c d,(mu.set xb c).set xb d=mu.set xb d:=fun c d=>List.set_set ..
  have a5:∀ c,(mu.set xb c)[tb]?=some (.mp (eSet es)):=fun c=>by rw[yu (fun e=>a3 e.symm)];exact ht
  have ab:=Kv (l+1) zOm zOm;have I:1+(jm (l+1)).size<=9223372036854775807:=zOm;simp[go_sem,C,hm,t,a4,w1];refine tC (itoaU (l+1) zOm zOm) (.zs .nil) ?_;simp[go_sem,C,t,I];rw[show (⟨#[118]⟩:tG)++jm (l+1)=vN (l+1) from rfl];generalize i:vN (l+1)=o;have J:=fun c=>qnD (a5 c) o
  simp[go_sem]at J;refine tA _ (J _) ?_;have g:yB ts es o=false->zq ts es m (l+1)=R/\∃ j:Nat,1<=j/\j<=m/\yB ts es (vN (l+1+j))=true:=fun hn=>by
   simp only[zq,i,hn]at hI;refine⟨zUs hI,j-1,?_,zOm,?_⟩
   .have:j≠1:=fun e=>by rw[e,show l+((1:Nat):Int)=l+1 by omega,i,hn]at r;cases r
    omega
   .rw [show l+1+((j-1:Nat):Int)=l+j by omega];exact r
  by_cases P:getK o es=some true
  case pos =>
   obtain⟨a1,a2⟩:=g (by simp[yB,P]);simp[go_sem,P];refine Keep.loop m zOm ⟨l+1,zOm,zOm,zS1 C,zSi,a1,a2⟩
  case neg =>
   simp[go_sem,C,t,P];refine tC (XT ts h o) (.zk (zl ts) (.zs .nil)) ?_;by_cases p:means ts o=[]
   .have a6:R=l+1:=by
     rw[<-hI];simp[zq,i,yB,P,p]
    subst a6;simp[go_sem,p];rw[i]
    try rfl
   .obtain ⟨a1,a2⟩:=g (by simp[yB,p])
    simp[go_sem,p];refine Keep.loop m zOm ⟨l+1,zOm,zOm,zS1 C,zSi,a1,a2⟩
end YA
namespace YB
open YM YF P1 Y1 Y6 Y9 Y10 YX YZ YA
section
variable {es:IEnv}{mu:Mu}{b xb:Nat}
def qk(ts:TS)(es:List (tG×Bool)):Nat:=es.length+ts.sA.length+3*ts.sS.length+1
def renI(ts:TS)(es:List (tG×Bool))(env:IEnv)(nm:tG)(body:Bool)(s:ISt):(IEnv×tG)×ISt:=
 if body=true\/means ts nm≠[] then
  ((setK nm ⟨none,0,vN (zq ts es (qk ts es) s.last)⟩ (delK nm env),vN (zq ts es (qk ts es) s.last)),⟨zq ts es (qk ts es) s.last,s.sM⟩)
 else ((delK nm env,nm),s)
theorem Zf{g J}[DecidableEq g]{k v}:∀{es},(es.map Prod.fst).Nodup->∀{x:g×J},x∈setK k v es↔x=(k,v)\/(x∈es/\x.1≠k)
 | [],_,x=>by simp[setK]
 |e :: es,h,x=>by
  rw[zT,jx]at h;unfold setK;by_cases i:k=e.1
  .rw [if_pos i,qt,qt]
   constructor
   .grind
   grind
  .rw [if_neg i,qt,qt,Zf h.2]
   constructor
   .grind
   grind
theorem vO{g m i}(h:g i=true):(cutM g m 0)[i]?=m[i]?:=by
 simp_all[js,z7,if_true]
theorem qnF{x}:x∈encK aS eIV es↔∃ y,y∈es/\(aS y.1,eIV y.2)=x:=qi
theorem Kw(h:(es.map Prod.fst).Nodup):((encK aS eIV es).map Prod.fst).Nodup:=by
 have e:(encK aS eIV es).map Prod.fst=(es.map Prod.fst).map aS:=by simp[encK]
 grind
theorem qnG{fs}(g:mu[b]?=some (.md (encK aS eIV es)))(i:(es.map Prod.fst).Nodup)(j:(fs.map Prod.fst).Nodup)(o:∀ x,x∈es↔x∈fs):Rd mu (.mp b) (eEnv fs):=by
 refine Rd.mds g (Kw i) (Kw j) (fun x=>?_) (fun x l=>?_)
 .grind
 .obtain ⟨y,_,rfl⟩:=qnF.1 l
  grind [HF.sc,qkX]
theorem updE(i:mu[b]?=some (.mp (encK aS eIV es)))(nm v) :
  jB qb mu 149 (.mp b) (aS nm) (eIV v)=some (mu.set b (.mp (encK aS eIV (setK nm v es)))):=
 keyS.update (et:=215) (t:=149) zSi (mu:=mu) (b:=b) (venc:=eIV) (es:=es) i (k:=nm) (v:=v) trivial (fun _ _=>trivial)
theorem qaW(i:mu[b]?=some (.md (encK aS eIV es)))(nm v) :
  jB qb mu 149 (.mp b) (aS nm) (eIV v)=some (mu.set b (.md (encK aS eIV (setK nm v es)))):=
 keyS.updateD (et:=215) (t:=149) zSi (mu:=mu) (b:=b) (venc:=eIV) (es:=es) i (k:=nm) (v:=v) trivial (fun _ _=>trivial)
structure But (xb:Nat) (mu m:Mu):Prop where
 len:mu.length<=m.length
 same:∀ i,i<mu.length->i≠xb->m[i]?=mu[i]?
theorem But.trans{a b c}(h:But xb a b)(k:But xb b c):But xb a c:=⟨zt h.len k.len,fun i g j=>(k.same i (Nat.lt_of_lt_of_le g h.len) j).trans (h.same i g j)⟩
theorem But.app(xb mu l):But xb mu (mu++l):=⟨zSp,fun i g _=>qG g⟩
theorem cR(xb mu c):But xb mu (mu.set xb c):=⟨zSp,fun i j g=>yu (fun e=>g e.symm)⟩
theorem But.setN{m}(h:But xb mu m){j}(o:mu.length<=j)(c):But xb mu (m.set j c):=⟨by simpa using h.len,fun i g l=>by rw[zGl];exact h.same i g l⟩
theorem But.cut{m}(h:But xb mu m){g}(l:∀ i,i<mu.length->g i=true):But xb mu (cutM g m 0):=⟨by rw[jz];exact h.len,fun i j o=>by rw[vO (l i j)];exact h.same i j o⟩
theorem qnH(a):(aArg a).one=true:=by cases a<;>rfl
theorem qnI(ts)(h:okTS ts)(s:ISt)(es)(hs:0<=s.last/\s.last+(qk ts es:Nat)<=1000000000)(tb)(aa:∃ j,1<=j/\j<=qk ts es/\yB ts es (vN (s.last+j))=true)(env)(hk:(env.map Prod.fst).Nodup)(nm body)
  {mu} {xb} (hx:mu[xb]?=some (.arr (cIn ts tb s))) (ht:mu[tb]?=some (.mp (eSet es))) :
  qy qb 127 [.ptr xb 0,eEnv env,aS nm,aB body] mu fun e m=>e = .ret (.tup [eEnv (renI ts es env nm body s).1.1,aS (renI ts es env nm body s).1.2])/\But xb mu m/\m[xb]?=some (.arr (cIn ts tb (renI ts es env nm body s).2)):=by
 refine fH ?_;refine qSW call127 func127 rfl {} ?_;have az:xb<mu.length:=(qg.1 hx).1;have ah:tb<mu.length:=(qg.1 ht).1;have ai:tb≠xb:=fun e=>by grind
 simp[go_sem];obtain⟨B,hB⟩:∃ B,B=encK aS eIV env:=⟨_,rfl⟩;have b0:B.length=env.length:=by rw[hB];simp
 rw[<-hB];refine qh.seen env.length (fun seen U=>U.tm 0 = .ptr xb 0/\U.tm 2=aS nm/\U.tm 3=aB body/\U.tm 10 = .mp mu.length/\U.tm 16 = .ptr (mu.length+1) 0/\But xb mu U.mu/\mu.length+1<U.mu.length/\U.mu[xb]?=mu[xb]?/\U.mu[mu.length+1]?=some (.it B seen) /\
  ∃ o:IEnv,U.mu[mu.length]?=some (.mp (encK aS eIV o))/\(o.map Prod.fst).Nodup/\∀ x,x∈o↔∃ i,i∈seen/\env[i]?=some x) ?_ ?_
 .simp_all [go_sem,But.app,qG]
 .rintro seen U b1 b2 ⟨e0,e2,e3,p,a5,R,hl,aj,ak,o,ab,C,I⟩
  simp[go_sem,a5];refine⟨mu.length+1,B,seen,rfl,ak,fun i e hi al=>?_,fun ax=>?_⟩
  .have J:∃ y,env[i]?=some y/\e=(aS y.1,eIV y.2):=by
    rw[hB,zf,jK]at hi;obtain⟨y,J,rfl⟩:=hi
    grind
   obtain⟨⟨k,va,vz,vn⟩,J,rfl⟩:=J;have an:i<env.length:=(qg.1 J).1;have a6:∀(c:Cell)(l:List Cell),(U.mu.set (mu.length+1) c++l)[mu.length]?=some (.mp (encK aS eIV o)):=fun c l=>by
    grind
   have hu:=fun c l=>updE (a6 c l) k ⟨va,vz,vn⟩
   simp[go_sem,p,a5,hi,hl,qnH];refine tA _ (hu _ _) ?_;generalize hM:List.set (U.mu.set (mu.length+1) (Cell.it B (seen++[i]))++[Cell.arr [aArg va,aI vz,aS vn]]) mu.length (.mp (encK aS eIV (setK k ⟨va,vz,vn⟩ o)))=M;have b3:M.length=U.mu.length+1:=by rw[<-hM];simp
   have ao:∀ j,j<U.mu.length->j≠mu.length->j≠mu.length+1->M[j]?=U.mu[j]?:=fun j h1 h2 h3=>by
    grind
   have aq:M[mu.length]?=some (.mp (encK aS eIV (setK k ⟨va,vz,vn⟩ o))):=by
    grind
   have b4:M[mu.length+1]?=some (.it B (seen++[i])):=by
    grind
   have a7:∀ v,(k,v)∈o->False:=fun v hm=>by
    obtain⟨j,P,he⟩:=(I _).1 hm;have h1:(env.map Prod.fst)[j]?=some k:=by rw[zf,he];rfl
    have h2:(env.map Prod.fst)[i]?=some k:=by rw[zf,J];rfl
    have b5:j<(env.map Prod.fst).length:=(qg.1 h1).1
    grind [List.getElem?_inj]
   simp[go_sem];refine⟨i,an,al,aK ?_⟩;refine⟨zS1 e0,zS1 e2,zS1 e3,zS1 p,zS1 a5,?_,by grind [qA],?_,by simp[go_sem, *],_,zVs aq,uW C,fun x v=>?_⟩
   .simp only[go_sem,qA]
    exact⟨zOm,fun j P hn=>by rw[ao j zOm zOm zOm];exact R.same j P hn⟩
   .grind [qA]
   .rw [Zf C,I]
    constructor
    .rintro (e|⟨⟨j,P,he⟩,_⟩)
     .exact ⟨i,zSp,by rw[J,e]⟩
     .exact ⟨j,zP1 P,he⟩
    .rintro ⟨j,P,he⟩
     rcases qH.1 P with P|P
     .refine .inr ⟨⟨j,P,he⟩,fun e=>?_⟩
      simp only at e;subst e;exact a7 v ((I _).2 ⟨j,P,he⟩)
     .rw [qT]at P
      subst P;rw[J]at he;exact .inl (Option.some.inj he).symm
  .simp [go_sem,e2,p]
   have ar:∀ x,x∈o↔x∈env:=fun x=>by
    grind [qU,List.mem_iff_getElem?,qg]
   refine keyS.delete (et:=215) (t:=149) zSi ab trivial (fun _ _=>trivial) ?_;have T:=ZB (k:=nm) C;have a8:∀ x,x∈delK nm o↔x∈delK nm env:=fun x=>by grind [Xf]
   have ad:mu.length<U.mu.length:=zOm;have au:∀ c,(U.mu.set mu.length c)[xb]?=some (.arr (cIn ts tb s)):=fun c=>by rw[zGl,aj];exact hx
   have av:∀ c,(U.mu.set mu.length c)[tb]?=some (.mp (eSet es)):=fun c=>by rw[zGl,R.same tb ah ai];exact ht
   have aw:∀ c,But xb mu (U.mu.set mu.length c):=fun c=>R.setN (qo _) c
   have hD:∀ c,(U.mu.set mu.length c)[mu.length]?=some c:=fun c=>qI ad
   generalize hM:U.mu.set mu.length (.md (encK aS eIV (delK nm o)))=M;have a0:M[xb]?=some (.arr (cIn ts tb s)):=by rw[<-hM];exact au _
   have ae:M[tb]?=some (.mp (eSet es)):=by rw[<-hM];exact av _
   have a9:But xb mu M:=by grind
   have a1:M[mu.length]?=some (.md (encK aS eIV (delK nm o))):=by grind
   have af:mu.length<M.length:=(qg.1 a1).1;have fin:∀(m:Mu)(a2 fs:IEnv)(a3:tG)(s1:ISt),But xb mu m->m[mu.length]?=some (.md (encK aS eIV a2))->(a2.map Prod.fst).Nodup->(fs.map Prod.fst).Nodup->(∀ x,x∈a2↔x∈fs)->m[xb]?=some (.arr (cIn ts tb s1))->((fs,a3),s1)=renI ts es env nm body s ->
     ∃(g:Nat->Bool) (x:AV),Gv m g (.tup [.mp mu.length,aS a3]) x/\x = .tup [eEnv (renI ts es env nm body s).1.1,aS (renI ts es env nm body s).1.2]/\But xb mu (cutM (fun i=>!g i) m 0)/\(cutM (fun i=>!g i) m 0)[xb]?=some (.arr (cIn ts tb (renI ts es env nm body s).2)):=by
    intro m a2 fs a3 s1 hb hd n1 n2 hm b6 e;rw[<-e];refine⟨fun i=>i == mu.length,.tup [eEnv fs,aS a3],.rd _ _ (.tup _ _ rfl fun k x y hx J=>?_),rfl,hb.cut fun i hi=>zSo,?_⟩
    .match k with
     | 0 =>
      simp at hx J;subst hx;subst J;exact qnG (by rw[vO zSp];exact hd) n1 n2 hm
     | 1 =>
      simp at hx J;subst hx;subst J;exact .zsc _
     |k+2=>simp at hx
    grind [vO]
   have ay:∀(b7:St)(K:qQ->St->Prop),True:=fun _ _=>trivial
   by_cases hb:body=true
   .subst hb
    simp[go_sem,e0,e3];refine fQ (qaV ts h s (qk ts es) hs tb es aa a0 ae) ?_ (by rintro r m ⟨e,_⟩;cases e);rintro r m ⟨e,rfl⟩;cases e;have hu:=qaW (mu:=M.set xb (.arr (cIn ts tb ⟨zq ts es (qk ts es) s.last,s.sM⟩))) (b:=mu.length) (by rw[zGl];exact a1) nm ⟨none,0,vN (zq ts es (qk ts es) s.last)⟩;simp[go_sem,e2,p];refine tA _ hu ?_;simp[go_sem,p];refine(fin _ _ _ _ ⟨zq ts es (qk ts es) s.last,s.sM⟩ ((a9.trans (cR xb M _)).setN (qo _) _) (qI (zUs af)) (uW T) (uW (ZB hk)) (fun x=>by rw[Zf T,Zf (ZB hk),a8]) (by rw[zGl,qI zOm];rfl) ?_);simp[renI]
   .have hb:body=false:=by simpa using hb
    subst hb;simp[go_sem,e0,e2,e3,a0];refine tC (XT ts h nm) (.zk (zl ts) (.zs .nil)) ?_;by_cases a4:means ts nm=[]
    .simp [go_sem,e2,p,a0,a4]
     refine(fin M _ _ _ _ a9 a1 T (ZB hk) a8 a0 ?_);simp[renI,a4]
    .have ag:0<(means ts nm).length:=List.length_pos_iff.2 a4
     simp[go_sem,e0,ag];refine fQ (qaV ts h s (qk ts es) hs tb es aa a0 ae) ?_ (by rintro r m ⟨e,_⟩;cases e);rintro r m ⟨e,rfl⟩;cases e;have hu:=qaW (mu:=M.set xb (.arr (cIn ts tb ⟨zq ts es (qk ts es) s.last,s.sM⟩))) (b:=mu.length) (by rw[zGl];exact a1) nm ⟨none,0,vN (zq ts es (qk ts es) s.last)⟩;simp[go_sem,e2,p];refine tA _ hu ?_;simp[go_sem,p];refine(fin _ _ _ _ ⟨zq ts es (qk ts es) s.last,s.sM⟩ ((a9.trans (cR xb M _)).setN (qo _) _) (qI (zUs af)) (uW T) (uW (ZB hk)) (fun x=>by rw[Zf T,Zf (ZB hk),a8]) (by rw[zGl,qI zOm];rfl) ?_);simp[renI,a4]
end
end YB
namespace Q9
open Y1
def qaX(nm:tG)(p:Int):Nd := .mk 1 nm 0 [] p
end Q9
namespace PA
open P1 P2 Y1 Y2 Y9 Y15 Y16 Q6
section
variable {inn:Bool}{c c':Ck}{s s':Scp}
def wd(nm:tG)(n:Nd):Prop:=anyN (fun n=>decide (n.name=nm)) n=true
theorem qaY{p}:∀{ks},ua p ks=true↔∃ k,k∈ks/\anyN p k=true
 | []=>by simp[ua]
 |k :: ks=>by
  simp only[ua,uM,qaY (ks:=ks),qt];constructor
  .rintro (h|⟨x,g,h⟩)
   .exact ⟨k,.inl rfl,h⟩
   .exact ⟨x,.inr g,h⟩
  .rintro ⟨x,rfl|g,h⟩
   .exact .inl h
   .exact .inr ⟨x,g,h⟩
theorem qnJ(n):wd n.name n:=by
 unfold wd;rw[UB];simp
theorem qnK{n k nm}(g:k∈n.sD)(h:wd nm k):wd nm n:=by
 unfold wd at h⊢;rw[UB,uM]
 grind [qaY]
def lookS(nm:tG)(s:Scp):Option Kd:=(jg nm s).head?.map Prod.snd
theorem qnL(nm):lookS nm []=none:=rfl
theorem Zg(nm v)(s:Scp):lookS nm (v :: s)=if v.1=nm then some v.2 else lookS nm s:=by
 grind [lookS,jg]
theorem ZO(c s nm pos):jl c s nm pos=match lookS nm s with
  |some k => .ok (some k)
  |none=>match means c.ts nm with
   | [] => .error (40,pos)
   | [k] => .ok (some k)
   |_ => .error (44,pos):=by
 grind [jl,lookS,jg]
theorem qaZ{n n'}(j:n'.op=n.op)(l:n'.name=n.name)(r:n'.n=n.n)(t:n'.pos=n.pos)
  (C:zS c' n.op n.name=zS c n.op n.name) (J:n.op=1->jl c s n.name n.pos=jl c' s' n.name n.pos) (o:c'.ts.sT=c.ts.sT) (g:zn c' n.name=zn c n.name)
  (p:c'.ts.sS.length=c.ts.sS.length) (i:n'.sD.length=n.sD.length)
  (P:n.op=47->∀ ps,z6 c s n.pos ps n.sD=z6 c' s' n.pos ps n'.sD)
  (hB:(n.op=15\/n.op=45\/n.op=46)->∀ inn,yd c s inn n.name n.pos n.sD=yd c' s' inn n.name n.pos n'.sD)
  (I:¬n.op=1->¬n.op=47->¬(n.op=15\/n.op=45\/n.op=46)->∀ inn,qY c s inn n.sD=qY c' s' inn n'.sD):exam c s inn n=exam c' s' inn n':=by
 rw[y8,y8,j,l,r,t,C,o,g,p,i];by_cases a:(inn&&zS c n.op n.name)=true
 .rw [if_pos a,if_pos a]
 rw[if_neg a,if_neg a];by_cases b:n.op=1
 .grind
 rw[if_neg b,if_neg b];by_cases d:n.op=47
 .simp_all
 rw[if_neg d,if_neg d];by_cases e:n.op=15\/n.op=45\/n.op=46
 .rw [if_pos e,if_pos e];exact hB e _
 rw[if_neg e,if_neg e,I b d e]
theorem qa0(f):∀{ks},(∀ k,k∈ks->exam c s inn k=exam c' s' inn (f k))->qY c s inn ks=qY c' s' inn (ks.map f)
 | [],_=>rfl
 |k :: ks,h=>by
  simp only[zT,qY];rw[h k (zd ..),qa0 f fun g i=>h g (qW _ i)]
theorem qa1{pos}(f):∀{ks ps},(∀ k,k∈ks->exam c s true k=exam c' s' true (f k))->z6 c s pos ps ks=z6 c' s' pos ps (ks.map f)
 | [],ps,_=>by cases ps<;>rfl
 |k :: ks,[],_=>rfl
 |k :: ks,p :: ps,h=>by
  simp only[zT,z6];rw[h k (zd ..),qa1 f (ps:=ps) fun g i=>h g (qW _ i)]
theorem UH{ks}(h:∀ k,k∈ks->exam c s inn k=exam c' s' inn k):qY c s inn ks=qY c' s' inn ks:=by
 have:=qa0 (c:=c) (c':=c') (s:=s) (s':=s') (inn:=inn) id (ks:=ks) h
 rwa[List.map_id]at this
theorem qa2{pos ks ps}(h:∀ k,k∈ks->exam c s true k=exam c' s' true k):z6 c s pos ps ks=z6 c' s' pos ps ks:=by
 have:=qa1 (c:=c) (c':=c') (s:=s) (s':=s') (pos:=pos) id (ks:=ks) (ps:=ps) h
 rwa[List.map_id]at this
structure we (c c':Ck):Prop where
 sT:c'.ts.sT=c.ts.sT
 sS:c'.ts.sS=c.ts.sS
 sA:c'.ts.sA=c.ts.sA
 calls:c'.calls=c.calls
 timed:c'.timed=c.timed
theorem we.refl(c):we c c:=⟨rfl,rfl,rfl,rfl,rfl⟩
theorem we.callee(h:we c c')(nm):zn c' nm=zn c nm:=by
 unfold zn;rw[h.sT,h.calls]
theorem we.time(h:we c c')(op nm):zS c' op nm=zS c op nm:=by
 unfold zS;rw[h.callee,h.timed]
theorem we.means(h:we c c')(nm):means c'.ts nm=means c.ts nm:=by
 unfold P1.means;rw[h.sA,h.sS]
theorem qa3(j:we c c'):∀ m n s s' inn,szN n<=m->(∀ nm,wd nm n->lookS nm s=lookS nm s')->exam c s inn n=exam c' s' inn n
 | 0,n,_,_,_,o,_=>by obtain⟨op,nm,i,ks,p⟩:=n;simp[szN]at o
 |m+1,n,s,s',inn,o,h=>by
  have l:∀ k,k∈n.sD->∀(s s':Scp)(inn:Bool),(∀ nm,wd nm k->lookS nm s=lookS nm s')->exam c s inn k=exam c' s' inn k:=fun k l s s' inn t =>
   qa3 j m k s s' inn (zW1 (ym l)) t
  have r:∀ k,k∈n.sD->∀ nm,wd nm k->lookS nm s=lookS nm s':=fun k l nm C=>h nm (qnK l C)
  refine qaZ rfl rfl rfl rfl (j.time _ _) (fun _=>?_) j.sT (j.callee _) (by rw[j.sS]) rfl (fun _ J=>qa2 fun k g=>l k g s s' true (r k g)) (fun _ inn=>?_) (fun _ _ _ inn=>UH fun k g=>l k g s s' inn (r k g))
  .rw [ZO,ZO,h _ (qnJ n),j.means]
  .cases I:n.sD with
   |nil=>rfl
   |cons k ks =>
    grind [ks,yd,zd,qY,UH,qW,Zg]
def wf(ts:TS)(g:List (tG×Nd)):TS:=⟨ts.sS,ts.sA,ts.sT,g⟩
theorem qnM{J}(g)(l:List J)(i):(repL g l)[i]?=(l[i]?).map fun x=>(l.take i).any fun y=>g x y:=by
 grind [mr,qw,List.getElem?_eq_none,wY]
theorem qa4{J}(g)(l:List J)(i):repB g l i=match l[i]? with|some x=>[(l.take i).any fun y=>g x y] | none=>[]:=by
 unfold repB;rw[List.take_add_one,qnM,List.drop_append];by_cases h:i<l.length
 .rw [qw h,List.length_take,wY,Nat.min_eq_left zOm,List.drop_of_length_le zSo]
  simp
 grind
def binB(op:Int):Bool:=decide (op=15)||decide (op=45)||decide (op=46)
end
end PA
namespace YC
open P1 Y1 YX YZ YA YB PA
section
variable {env:IEnv}{s:ISt}{es:List (tG×Bool)}{F:Nat}{ts:TS}
abbrev XR(J:Type):=Except Dg (J×ISt)
def ji(E:Nd->ISt->XR (Nd×Int)):List (tG×Int)->List Nd->IEnv->ISt->XR IEnv
 |p :: g,k :: ks,own,s=>match E k s with
  | .error e => .error e
  | .ok ((i,m),j)=>ji E g ks (setK p.1 ⟨some i,m,⟨#[]⟩⟩ own) j
 |_,_,own,s => .ok (own,s)
def yJ(E:IEnv->Nd->ISt->XR (Nd×Int))(R:IEnv->tG->ISt->(IEnv×tG)×ISt)(bin:Bool):Nat->IEnv->tG->List Nd->ISt->XR (tG×List Nd×Int)
 |_,_,o,[],s => .ok ((o,[],0),s)
 |i,env,o,k :: ks,s =>
  let r:=if bin=true/\i=1 then R env o s else ((env,o),s)
  match E r.1.1 k r.2 with
  | .error e => .error e
  | .ok ((p,m),t)=>match yJ E R bin (i+1) r.1.1 r.1.2 ks t with
   | .error e => .error e
   | .ok ((g,j,C),l) => .ok ((g,p :: j,m+C),l)
def vP{J i:Type}(q:XR J)(g:J->ISt->XR i):XR i:=
 match q with
 | .error e => .error e
 | .ok (a,s)=>g a s
theorem Yx{J i q}{g:J->ISt->XR i}{r}(h:vP q g = .ok r):∃ a s,q = .ok (a,s)/\g a s = .ok r:=by
 unfold vP at h;split at h
 .cases h
 .exact ⟨_,_,rfl,h⟩
def expI(ts:TS)(es:List (tG×Bool)):Nat->IEnv->Nd->Bool->ISt->XR (Nd×Int)
 | 0,_,_,_,_ => .error (2,0)
 |f+1,env,n,g,s =>
  if s.sM+1<=4000 then
   if n.op=1 then vK env n (payS 1 s)
   else if n.op=47 then match ts.sT.find? fun p=>decide (p.name=n.name) with
    |none => .error (2,0)
    |some p=>vP (ji (fun k s=>expI ts es f env k g s) p.params n.sD [] (payS 1 s)) fun own i=>expI ts es f own p.body true i
   else vP (yJ (fun env k s=>expI ts es f env k g s) (fun env o s=>renI ts es env o g s) (binB n.op) 0 env n.name n.sD (payS 1 s)) fun r i => .ok ((.mk n.op r.1 n.n r.2.1 n.pos,1+r.2.2),i)
  else .error (2,0)
def yK(ts:TS)(n:Nd):Prop:=∀ x,x∈preN n->x.op=47->∃ p,(ts.sT.find? fun p=>decide (p.name=x.name))=some p/\p.params.length=x.sD.length
theorem qnN{ks k x}(g:k∈ks)(i:x∈preN k):x∈zp ks:=by
 induction ks with
 |nil=>simp at g
 |cons a l j =>
  simp only[zp,qH];rcases qt.1 g with rfl|g
  .exact .inl i
  grind
theorem Kx{n k x}(g:k∈n.sD)(i:x∈preN k):x∈preN n:=by
 grind [u9,qW,qnN]
theorem ud(n):n∈preN n:=by rw[u9];exact zd ..
theorem yK.kid{n k}(h:yK ts n)(g:k∈n.sD):yK ts k:=fun x i=>h x (Kx g i)
def pot(F:Nat)(s:ISt):Int:=s.sM*F-s.last
structure StOk (F:Nat) (s:ISt):Prop where
 l0:0<=s.last
 c0:0<=s.sM
 c1:s.sM<=4000
 p:0<=pot F s
theorem StOk.last(h:StOk F s):s.last<=4000*F:=by
 have g:s.sM*F<=4000*F:=Int.mul_le_mul_of_nonneg_right h.c1 zOm;have:=h.p
 grind [pot]
structure zo (env:IEnv):Prop where
 nd:(env.map Prod.fst).Nodup
 sz:∀ e,e∈env->0<=e.2.size/\e.2.size<=4000
theorem zo.nil:zo []:=⟨zSp,fun e g=>by simp at g⟩
theorem zo.set(h:zo env){k v}(i:0<=v.size/\v.size<=4000):zo (setK k v env):=
 ⟨uW h.nd,fun e g=>by
  rcases (Zf h.nd).1 g with rfl|⟨g,_⟩
  .exact i
  .exact h.sz e g⟩
theorem zo.del(h:zo env){k}:zo (delK k env):=⟨ZB h.nd,fun e g=>h.sz e ((Xf h.nd).1 g).1⟩
theorem J7{nm body}(h:zo env):zo (renI ts es env nm body s).1.1:=by
 unfold renI;split
 .exact h.del.set ⟨zSp,zSp⟩
 .exact h.del
theorem Ky(ts es):∀ f k,k<zq ts es f k/\zq ts es f k<=k+f+1
 | 0,k=>by grind [zq]
 |f+1,k=>by
  simp only[zq];have:=Ky ts es f (k+1);omega
theorem Kz{ts es}:∀{f k},(∃ j:Nat,1<=j/\j<=f/\yB ts es (vN (k+j))=true)->zq ts es f k<=k+f
 | 0,k,⟨j,g,i,_⟩=>zOm
 |f+1,k,⟨j,g,i,l⟩=>by
  simp only[zq];split
  .omega
  .rename_i o
   have p:j≠1:=fun e=>by grind
   have:=Kz (ts:=ts) (es:=es) (f:=f) (k:=k+1) ⟨j-1,zOm,zOm,by grind⟩;omega
def Free(ts:TS)(es:List (tG×Bool)):Prop:=∀ l:Int,0<=l->∃ j:Nat,1<=j/\j<=qk ts es/\yB ts es (vN (l+j))=true
theorem J8(g:Free ts es){env nm body s}(i:0<=s.last):0<=(renI ts es env nm body s).2.last/\(renI ts es env nm body s).2.last<=s.last+(qk ts es:Nat)/\(renI ts es env nm body s).2.sM=s.sM:=by
 unfold renI;split
 .have l:=Ky ts es (qk ts es) s.last
  have j:=Kz (g s.last i);refine⟨?_,j,rfl⟩
  grind
 .exact ⟨i,by grind,rfl⟩
structure Gos (F:Nat) (s s':ISt) (z:Int):Prop where
 l0:0<=s'.last
 c1:s'.sM<=4000
 z0:0<=z
 cz:s.sM+z<=s'.sM
 p:pot F s<=pot F s'
theorem Gos.ok{s' z}(g:Gos F s s' z)(h:StOk F s):StOk F s':=⟨g.l0,by have:=g.cz;have:=g.z0;have:=h.c0;omega,g.c1,zW2 g.p h.p⟩
theorem ZP(F s n):pot F (payS n s)=pot F s+n*F:=by
 grind [pot,payS,Int.add_mul]
theorem Qb(h:StOk F s){n}(g:0<=n)(i:s.sM+n<=4000):Gos F s (payS n s) n:=
 ⟨h.l0,i,g,vf _,by rw[ZP];have:0<=n*(F:Int):=Int.mul_nonneg g zOm;omega⟩
theorem qnO{n n' s' z}(h:StOk F s)(l:zo env)(t:s.sM+1<=4000)(e:vK env n (payS 1 s) = .ok ((n',z),s')):Gos F s s' z:=by
 have j:=Qb h (n:=1) zOm t;unfold vK at e;cases o:getK n.name env with
 |none=>grind
 |some v =>
  rw[o]at e;have C:=l.sz _ ((Qq l.nd).1 o);obtain⟨I,r,P⟩:=v;cases I with
  |none=>cases e;exact j
  |some a =>
   simp only at e;split at e
   .rename_i J
    have i:0<=r/\r<=4000:=C;cases e;have g:=Qb (j.ok h) i.1 J;exact⟨g.l0,g.c1,i.1,zW2 g.cz j.cz,zW2 g.p j.p⟩
   .cases e
theorem KA{E}:∀{ks ps own i s s'},(∀ k n' z s s',k∈ks->StOk F s->E k s = .ok ((n',z),s')->Gos F s s' z)->StOk F s->zo own ->
  ji E ps ks own s = .ok (i,s')->zo i/\Gos F s s' 0
 | [],ps,own,i,s,s',_,h,j,e=>by
  have e:Except.ok (own,s)=(Except.ok (i,s'):XR IEnv):=by cases ps<;>exact e
  cases e;exact⟨j,h.l0,h.c1,zOm,zOm,vf _⟩
 |k :: ks,[],own,i,s,s',_,h,j,e=>by
  cases e;exact⟨j,h.l0,h.c1,zOm,zOm,vf _⟩
 |k :: ks,p :: ps,own,i,s,s',o,h,j,e=>by
  simp only[ji]at e;split at e
  .cases e
  .rename_i r m s1 t
   have g:=o k r m s s1 (zd ..) h t;have C:m<=4000:=by have:=g.cz;have:=g.c1;have:=h.c0;omega
   obtain⟨I,l⟩:=KA (fun k n' z s s' J=>o k n' z s s' (qW _ J)) (g.ok h) (j.set (v:=⟨some r,m,⟨#[]⟩⟩) ⟨g.z0,C⟩) e;exact⟨I,l.l0,l.c1,zOm,by have:=g.cz;have:=g.z0;have:=l.cz;omega,zW2 g.p l.p⟩
def dueN(F:Nat)(bin:Bool)(i:Nat):Int:=if bin=true/\i<=1 then F else 0
theorem ZQ(F bin i):0<=dueN F bin i:=by unfold dueN;split<;>omega
theorem UI{bin i}(h:¬(bin=true/\i=1)):dueN F bin i=dueN F bin (i+1):=by
 unfold dueN;by_cases g:bin=true
 .by_cases l:i=1
  .grind
  .by_cases j:i<=1
   .rw [if_pos ⟨g,j⟩,if_pos ⟨g,zOm⟩]
   omega
 grind
theorem qa5{E R bin}(P:∀ env nm s,0<=s.last->zo env->zo (R env nm s).1.1/\0<=(R env nm s).2.last/\(R env nm s).2.last<=s.last+(F:Int)/\(R env nm s).2.sM=s.sM) :
  ∀{ks i env nm j s s' l m},(∀ env k n' z s s',k∈ks->StOk F s->zo env->E env k s = .ok ((n',z),s')->Gos F s s' z)->0<=s.last->0<=s.sM->s.sM<=4000->dueN F bin i<=pot F s->zo env ->
  yJ E R bin i env nm ks s = .ok ((j,l,m),s')->0<=s'.last/\s'.sM<=4000/\0<=m/\s.sM+m<=s'.sM/\pot F s-dueN F bin i<=pot F s'
 | [],i,env,nm,j,s,s',l,m,_,T,c0,c1,hp,U,e=>by
  cases e;have:=ZQ F bin i;omega
 |k :: ks,i,env,nm,j,s,s',l,m,hE,T,c0,c1,hp,U,e=>by
  simp only[yJ]at e;obtain⟨r,t⟩:∃ r,r=if bin=true/\i=1 then R env nm s else ((env,nm),s):=⟨_,rfl⟩
  rw[<-t]at e;have I:zo r.1.1/\0<=r.2.last/\r.2.sM=s.sM/\dueN F bin (i+1)<=pot F r.2/\pot F s-dueN F bin i<=pot F r.2-dueN F bin (i+1):=by
   by_cases C:bin=true/\i=1
   .rw [if_pos C]at t
    obtain⟨a1,a2,a3,a4⟩:=P env nm s T U;have d1:dueN F bin i=F:=if_pos ⟨C.1,zOm⟩;have d2:dueN F bin (i+1)=0:=zIn
    grind [pot]
   .rw [if_neg C]at t
    subst t;have d':dueN F bin i=dueN F bin (i+1)\/(bin=true/\i=1):=by
     unfold dueN;by_cases o:bin=true
     .by_cases h1:i=1
      .grind
      .left
       by_cases h0:i<=1
       .rw [if_pos ⟨o,h0⟩,if_pos ⟨o,zOm⟩]
       omega
     grind
    have a0:dueN F bin i=dueN F bin (i+1):=d'.elim id fun h=>absurd h C
    grind
  obtain⟨b1,b2,b3,b4,b5⟩:=I;split at e
  .cases e
  .rename_i k' m1 s1 h1
   have J:StOk F r.2:=⟨b2,zOm,zOm,zW1 (ZQ F bin (i+1))⟩;have g:=hE r.1.1 k k' m1 r.2 s1 (zd ..) J b1 h1;split at e
   .cases e
   .rename_i a5 a6 m2 s2 h2
    have:=qa5 P (fun env k n' z s s' hk=>hE env k n' z s s' (qW _ hk)) g.l0 (zW2 g.cz g.z0) g.c1 (zW1 g.p) b1 h2;obtain⟨q1,q2,q3,q4,q5⟩:=this;cases e;have:=g.cz;have:=g.z0;have:=g.p;omega
theorem jG(ts){es}(g:Free ts es):∀(f){env n n' body s s' z},StOk (qk ts es) s->zo env->expI ts es f env n body s = .ok ((n',z),s')->Gos (qk ts es) s s' z
 | 0,_,_,_,_,_,_,_,_,_,e=>by cases e
 |f+1,env,n,n',body,s,s',z,h,P,e=>by
  simp only[expI]at e;split at e
  .rename_i R
   have i:=Qb h (n:=1) zOm R;split at e
   .grind [qnO]
   .split at e
    .split at e
     .cases e
     .rename_i p _
      .obtain ⟨own,s1,t,e⟩:=Yx e
       obtain⟨T,g1⟩:=KA (F:=qk ts es) (fun k n' z s s' _ C I=>jG ts g f C P I) (i.ok h) .nil t;have j:=jG ts g f (g1.ok (i.ok h)) T e;exact⟨j.l0,j.c1,j.z0,by have:=j.cz;have:=g1.cz;have:=i.cz;omega,by have:=j.p;have:=g1.p;have:=i.p;omega⟩
    ·.obtain ⟨⟨l,r,m⟩,s1,t,e⟩:=Yx e
      cases e;have U:dueN (qk ts es) (binB n.op) 0<=pot (qk ts es) (payS 1 s):=by
       rw[ZP];have:=h.p;grind [dueN]
      have:=qa5 (F:=qk ts es) (fun env o s hl J=>⟨J7 J,J8 g hl⟩) (fun env k n' z s s' _ C J I=>jG ts g f C J I) i.l0 (by have:=(i.ok h).c0;exact this) i.c1 U P t;obtain⟨q1,q2,q3,q4,q5⟩:=this;have a0:dueN (qk ts es) (binB n.op) 0<=(qk ts es:Nat):=by grind [dueN]
      rw[ZP]at q5;have a1:0<=(l,r,m).snd.snd:=q3;have a2:(payS 1 s).sM+(l,r,m).snd.snd<=s'.sM:=q4;exact⟨q1,q2,zOm,zW1 i.cz,zOm⟩
  .cases e
end
end YC
namespace E6
end E6
namespace YD
open YM YF P1 P2 Y1 Y2 Y6 Y7 Y9 Y10 Y13 YX YZ YB PA YC
section
variable {mu:Mu}{b:Nat}
theorem qnP(p n):qd qb 125 [.agg (cPd p),.ip (cNd n)] (aB (decide (p.name=n.name))):=by
 refine qSV call125 func125 rfl ?_;by_cases h:p.name=n.name
 .simp [go_sem,h]
  exact .zsc _
 .simp [go_sem,h,jF h]
  exact .zsc _
def endE(ts:TS)(tb:Nat)(mu:Mu)(xb:Nat)(r:XR (Nd×Int))(e:AEnd)(m:Mu):Prop:=
 match r with
 | .ok ((n,k),s)=>e = .ret (.tup [eNd n,aI k])/\m[xb]?=some (.arr (cIn ts tb s))/\But xb mu m
 | .error d=>e = .pan (jE d.1 d.2)/\But xb mu m
def IHE(ts : TS)(es : List (tG × Bool))(tb f : Nat) : Prop := ∀(env : IEnv)(n : Nd)(g : Bool)(s : ISt)(C : Mu)(i : Nat), 4000 < s.sM + f->StOk (qk ts es) s->zo env->WfN n->yK ts n->C[i]? = some (.arr (cIn ts tb s))->C[tb]? = some (.mp (eSet es)) ->
      qy qb 79 [.ptr i 0,eEnv env,eNd n,aB g] C (endE ts tb C i (expI ts es f env n g s))
structure M0 (ts:TS) (es:List (tG×Bool)) (tb:Nat) (mu:Mu) (xb:Nat) (n:Nd) (s:ISt) (M:Mu):Prop where
 len:M.length=mu.length+2
 x:M[xb]?=some (.arr (cIn ts tb s))
 t:M[tb]?=some (.mp (eSet es))
 n:M[mu.length]?=some (.arr (cNd n))
 r:M[mu.length+1]?=some (.arr [aI 0,aS ⟨#[]⟩,aI 0,.lst true [],aI 0])
 but:But xb mu M
theorem M0.of{ts es tb xb n s s'}(g:mu[xb]?=some (.arr (cIn ts tb s)))(i:mu[tb]?=some (.mp (eSet es))) :
  M0 ts es tb mu xb n s' ((mu++[Cell.arr (cNd n),Cell.arr [aI 0,aS ⟨#[]⟩,aI 0,.lst true [],aI 0]]).set xb (.arr (cIn ts tb s'))):=by
 have j:xb<mu.length:=(qg.1 g).1;have l:tb<mu.length:=(qg.1 i).1;have o:tb≠xb:=fun e=>by grind
 refine⟨zSp,qI zSo,?_,?_,?_,(But.app xb mu _).trans (cR xb _ _)⟩
 .grind
 .grind
 grind
theorem qnQ(ts es tb env n body s mu xb)(J:StOk (qk ts es) s)(P:zo env)(R:mu[xb]?=some (.arr (cIn ts tb s)))(T:mu[tb]?=some (.mp (eSet es)))(t:n.op=1) :
  qy qb 79 [.ptr xb 0,eEnv env,eNd n,aB body] mu (endE ts tb mu xb (if s.sM+1<=4000 then vK env n (payS 1 s) else .error (2,0))):=by
 have U:=J.c0;have a0:=J.c1;refine qSW call79 func79 rfl { mt:=[6] } ?_;have a1:xb<mu.length:=(qg.1 R).1;simp[go_sem];refine fQ (payU ts tb s 1 ⟨zOm,zOm⟩ ⟨zOm,zOm⟩ (by grind)) ?_ ?_
 .rintro r m ⟨rfl,e⟩
  by_cases C:s.sM+1<=4000
  .rw [if_pos C]at e⊢
   cases e;have l:=M0.of (s':=payS 1 s) (n:=n) R T;generalize a2:(mu++[Cell.arr (cNd n),.arr [aI 0,aS ⟨#[]⟩,aI 0,.lst true [],aI 0]]).set xb (.arr (cIn ts tb (payS 1 s)))=M at *
   simp[go_sem,l.n,t];have g:=qkY ts tb (payS 1 s) ⟨by show _<=s.sM+1;omega,by show s.sM+1<=_;omega⟩ env P.nd (fun e hm=>zW1 (P.sz e hm)) n l.x;generalize vK env n (payS 1 s)=Q at *
   have a3:=l.len;cases Q with
   |error d =>
    refine fQ g (by rintro r m ⟨e,_⟩;cases e) ?_;rintro r m ⟨e,i,j⟩;cases e;simp[go_sem];exact⟨rfl,l.but.trans ⟨j,i⟩⟩
   |ok q =>
    obtain⟨⟨n',k'⟩,s'⟩:=q;refine fQ g ?_ (by rintro r m ⟨e,_⟩;cases e);rintro r m ⟨e,a4,i,j⟩;cases e;have I:m[mu.length+1]?=some (.arr [aI 0,aS ⟨#[]⟩,aI 0,.lst true [],aI 0]):=by grind
    have o:mu.length+1<m.length:=zOm;have p:∀ c,(m.set (mu.length+1) c)[mu.length+1]?=some c:=fun c=>qI o
    simp[go_sem,I,p];exact⟨rfl,by grind,(l.but.trans ⟨j,i⟩).setN zOm _⟩
  grind
 .rintro r m ⟨rfl,e⟩
  by_cases C:s.sM+1<=4000
  .grind
  .rw [if_neg C]at e⊢
   cases e;simp[go_sem];exact⟨rfl,(But.app xb mu _).trans (cR xb _ _)⟩
theorem qa6{cs}(j:mu[b]?=some (.arr cs))(h:∀ c,c∈cs->HF c):Rd mu (.ptr b 0) (.ip cs):=
 .ptr b 0 cs cs j zSp fun k x y g i=>by
  rw[z7]at g;rw[g]at i;cases i;exact .hf _ (h _ (qU g))
abbrev AP:=Nat×Int×Nd
abbrev eAP(a:AP):AV := .agg [.ptr a.1 0,aI a.2.1,aS ⟨#[]⟩]
abbrev ivA(a:AP):IV:=⟨some a.2.2,a.2.1,⟨#[]⟩⟩
abbrev ownA(acc:List (tG×AP)):IEnv:=acc.map fun e=>(e.1,ivA e.2)
theorem KB{i J j}[DecidableEq i](g:J->j)(k v):∀ es:List (i×J),(setK k v es).map (fun e=>(e.1,g e.2))=setK k (g v) (es.map fun e=>(e.1,g e.2))
 | []=>rfl
 |e :: es=>by
  simp only[setK,zT];split
  .rfl
  .rw [zT,KB g k v es]
theorem updAP{es}(i:mu[b]?=some (.mp (encK aS eAP es)))(nm v) :
  jB qb mu 149 (.mp b) (aS nm) (eAP v)=some (mu.set b (.mp (encK aS eAP (setK nm v es)))):=
 keyS.update (et:=215) (t:=149) zSi (mu:=mu) (b:=b) (venc:=eAP) (es:=es) i (k:=nm) (v:=v) trivial (fun _ _=>trivial)
theorem qa7{acc}(o:mu[b]?=some (.mp (encK aS eAP acc)))(r:(acc.map Prod.fst).Nodup)(p:∀ e,e∈acc->mu[e.2.1]?=some (.arr (cNd e.2.2.2))):Rd mu (.mp b) (eEnv (ownA acc)):=by
 have j:((ownA acc).map Prod.fst).Nodup:=by
  grind
 have get:∀(k:Nat)(x y:AV×AV),(encK aS eAP acc)[k]?=some x->(encK aS eIV (ownA acc))[k]?=some y->∃ e,e∈acc/\x=(aS e.1,eAP e.2)/\y=(aS e.1,eIV (ivA e.2)):=fun k x y g i=>by
  grind
 refine .ims _ _ _ id id (PIx.refl _) (Kw j) (.mp b _ _ o zSp (fun k x y g i=>?_) (fun k x y g i=>?_))
 .obtain ⟨e,l,rfl,rfl⟩:=get k x y g i
  exact .zsc _
 .obtain ⟨e,l,rfl,rfl⟩:=get k x y g i
  refine .agg _ _ rfl fun k x y g i=>?_
  match k with
  | 0 =>
   simp at g i;subst g;subst i;exact qa6 (p e l) (vj _)
  | 1=>simp at g i;subst g;subst i;exact .zsc _
  | 2=>simp at g i;subst g;subst i;exact .zsc _
  |k+3=>simp at g
theorem qnR{ps:List Pd}{g p}(h:ps.find? g=some p):∃ i,∃ j:i<ps.length,ps[i]=p/\idxI ps g=i:=by
 grind [List.find?_eq_some_iff_getElem,Xp]
theorem qnS(ts)(h:okTS ts)(hb:∀ p,p∈ts.sT->WfN p.body/\yK ts p.body)(es)(hF:qk ts es<=200000)(b0:Free ts es)(tb f)(ih:IHE ts es tb f)(env n body)(s:ISt)(mu xb)
  (hc:4000<s.sM+(f+1:Nat)) (hs:StOk (qk ts es) s) (he:zo env) (hw:WfN n) (aj:yK ts n) (hx:mu[xb]?=some (.arr (cIn ts tb s))) (ht:mu[tb]?=some (.mp (eSet es))) (ab:n.op=47) :
  qy qb 79 [.ptr xb 0,eEnv env,eNd n,aB body] mu (endE ts tb mu xb (expI ts es (f+1) env n body s)):=by
 have bq:=hs.c0;have br:=hs.c1;generalize J:expI ts es (f+1) env n body s=R;simp only[expI,ab]at J;obtain⟨p,hp,b1⟩:=aj n (ud n) ab;rw[hp]at J;refine qSW call79 func79 rfl { mt:=[6] } ?_;have bs:xb<mu.length:=(qg.1 hx).1;have b2:tb<mu.length:=(qg.1 ht).1;simp[go_sem];refine fQ (payU ts tb s 1 ⟨zOm,zOm⟩ ⟨zOm,zOm⟩ (by grind)) ?_ ?_
 .rintro r m ⟨rfl,e⟩
  by_cases T:s.sM+1<=4000
  .rw [if_pos T]at e J
   cases e;have hM:=M0.of (s':=payS 1 s) (n:=n) hx ht;generalize bt:(mu++[Cell.arr (cNd n),.arr [aI 0,aS ⟨#[]⟩,aI 0,.lst true [],aI 0]]).set xb (.arr (cIn ts tb (payS 1 s)))=M at *
   have bu:=hM.len;simp[go_sem,hM.n,ab];refine qe.fz (FzQ.one (b:=mu.length) (d:=6) (x := .ip (cNd n)) ?_ ?_)
   .simp [go_sem]
    grind [qa6,vO,vj]
   have ak:(cutM (fun j=>!(j == mu.length)) M 0)[xb]?=some (.arr (cIn ts tb (payS 1 s))):=by grind [vO]
   have bn:(cutM (fun j=>!(j == mu.length)) M 0)[tb]?=some (.mp (eSet es)):=by grind [vO]
   have bo:(cutM (fun j=>!(j == mu.length)) M 0)[mu.length+1]?=some (.arr [aI 0,aS ⟨#[]⟩,aI 0,.lst true [],aI 0]):=by grind [vO]
   have al:But xb mu (cutM (fun j=>!(j == mu.length)) M 0):=hM.but.cut fun i hi=>zSo
   have a8:(cutM (fun j=>!(j == mu.length)) M 0).length=mu.length+2:=by grind [jz]
   simp only[qA];generalize cutM (fun j=>!(j == mu.length)) M 0=M1 at *
   refine cZ zKr ?_;simp[go_sem,ak];obtain⟨i,hi,b3,an⟩:=qnR hp;have b4:Jz qb (.fn (.func 125) [] [.ip (cNd n)]) ts.sT (fun x => .agg (cPd x)) (fun p=>decide (p.name=n.name)):=⟨_,_,_,rfl,fun p hp=>⟨_,qnP p n,.zk (HF.agg (Uh p)) (.zk (JW n) .nil)⟩⟩;refine tC (Xq false ts.sT _ (fun p=>decide (p.name=n.name)) b4 (zW1 h.np)) (.zk (Qv _) (.zk (HF.fn zSp (fun x hx=>by grind [JW])) .nil)) ?_;rw[an];have b5:p∈ts.sT:=List.mem_of_find?_eq_some hp;obtain⟨b6,b7⟩:=hb p b5;have ao:=hw.len;have a5:=Qw p;simp[go_sem,hi,b3,a5];have aq:StOk (qk ts es) (payS 1 s):=(Qb hs zOm T).ok hs;have J:vP (ji (fun k s=>expI ts es f env k body s) p.params n.sD [] (payS 1 s)) (fun own s'=>expI ts es f own p.body true s')=R:=zUs J;generalize hQ:ji (fun k s=>expI ts es f env k body s) p.params n.sD [] (payS 1 s)=Q at *
   refine kT n.sD.length (fun k U=>∃(o:List (tG×AP)) (P:ISt),U.tm 0 = .ptr xb 0/\U.tm 1=eEnv env/\U.tm 3=aB body/\U.tm 8 = .ptr (mu.length+1) 0/\U.tm 10 = .ptr (mu.length+2) 0/\U.tm 11 = .mp (mu.length+3)/\U.tm 52=lNd n.sD/\U.tm 53=aI n.sD.length/\U.tm 54=aI k /\
    But xb mu U.mu/\mu.length+3<U.mu.length/\U.mu[xb]?=some (.arr (cIn ts tb P))/\U.mu[mu.length+1]?=some (.arr [aI 0,aS ⟨#[]⟩,aI 0,.lst true [],aI 0])/\U.mu[mu.length+2]?=some (.arr (cPd p))/\U.mu[mu.length+3]?=some (.mp (encK aS eAP o)) /\
    (∀ e,e∈o->mu.length+3<e.2.1/\e.2.1<U.mu.length/\U.mu[e.2.1]?=some (.arr (cNd e.2.2.2)))/\zo (ownA o)/\(o.map Prod.fst).Nodup/\StOk (qk ts es) P/\s.sM+1<=P.sM/\ji (fun k s=>expI ts es f env k body s) (p.params.drop k) (n.sD.drop k) (ownA o) P=Q) ?_ ?_
   .refine ⟨[],payS 1 s,zSi,zSi,zSi,zSi,by simp[go_sem,a8],by simp[go_sem,a8],zSi,zSi,zSi,?_,?_,?_,?_,?_,?_,zSp,.nil,zSp,aq,by show _<=s.sM+1;omega,zUs hQ⟩
    all_goals simp only[qA]
    .exact al.trans (But.app xb M1 _)
    .simp;omega
    .grind
    .grind
    .grind
    grind
   .rintro k U hk ⟨o,P,e0,e1,e3,e8,ad,ae,ar,af,ag,C,hl,gx,gr,gp,gm,au,a9,ah,a6,b8,hI⟩
    have b9:U.mu[tb]?=some (.mp (eSet es)):=by rw[C.same tb b2 (fun e=>by grind)];exact ht
    by_cases ao:k=n.sD.length
    .subst ao
     simp[go_sem,e0,ad,ae,af,ag,gp];rw[yh,List.drop_of_length_le zOm]at hI;have hI:Q = .ok (ownA o,P):=hI.symm;rw[hI]at J;have J:expI ts es f (ownA o) p.body true P=R:=J;have av:∀ i,i<mu.length+3->(cutM (fun i=>!decide (mu.length+3<=i)) U.mu 0)[i]?=U.mu[i]?:=fun i hi=>vO zSo
     have g:=ih (ownA o) p.body true P (cutM (fun i=>!decide (mu.length+3<=i)) U.mu 0) xb zOm a6 a9 b6 b7 (by grind) (by grind);rw[J]at g;have g:=qy.freeze (mu:=U.mu) (args:=[.ptr xb 0,.mp (mu.length+3),eNd p.body,aB true]) (args1:=[.ptr xb 0,eEnv (ownA o),eNd p.body,aB true]) (fun i=>decide (mu.length+3<=i)) ⟨.inl rfl,.inr (qa7 (by grind [vO]) ah (fun e he=>by
      grind [vO])),.inl rfl,.inl rfl,trivial⟩ g
     cases R with
     |error d =>
      refine fQ g (by rintro r m ⟨e,_⟩;cases e) ?_;rintro r m ⟨e,t⟩;cases e;simp[go_sem];exact⟨rfl,(C.cut fun i hi=>zSo).trans t⟩
     |ok q =>
      obtain⟨⟨n',k'⟩,s'⟩:=q;refine fQ g ?_ (by rintro r m ⟨e,_⟩;cases e);rintro r m ⟨e,aw,t⟩;cases e;have ai:=t.len;rw[jz]at ai;have ax:mu.length+1<m.length:=zOm;have bc:m[mu.length+1]?=some (.arr [aI 0,aS ⟨#[]⟩,aI 0,.lst true [],aI 0]):=by rw[t.same _ (by rw[jz];omega) zOm,av _ zOm];exact gr
      have ay:∀ c,(m.set (mu.length+1) c)[mu.length+1]?=some c:=fun c=>qI ax
      simp[go_sem,e8,bc,ay];refine⟨rfl,by grind,?_⟩;exact((C.cut fun i hi=>zSo).trans t).setN zOm _
    .have a7:k<n.sD.length:=by omega
     have w1:=zWk k;have aa:k<p.params.length:=zOm;rw[zm a7,zm aa]at hI;simp only[ji]at hI;simp[go_sem,e0,e1,e3,ar,af,ag,a7];have a0:∀ i,i<U.mu.length->(U.mu++[Cell.arr (cNd n.sD[k])])[i]?=U.mu[i]?:=fun i hi=>qG hi
     have az:n.sD[k]∈n.sD:=qn a7;have g:=ih env n.sD[k] body P (U.mu++[Cell.arr (cNd n.sD[k])]) xb zOm a6 he (hw.kid az) (aj.kid az) (by grind) (by rw[a0 _ zOm];exact b9);have be:∀{n' z s'},expI ts es f env n.sD[k] body P = .ok ((n',z),s')->Gos (qk ts es) P s' z:=fun e=>jG ts b0 f a6 he e
     generalize hE:expI ts es f env n.sD[k] body P=E at *
     cases E with
     |error d =>
      have hI:Q = .error d:=hI.symm;rw[hI]at J;have J:R = .error d:=J.symm;subst J;refine fQ g (by rintro r m ⟨e,_⟩;cases e) ?_;rintro r m ⟨e,t⟩;cases e;simp[go_sem];exact⟨rfl,C.trans ((But.app xb U.mu _).trans t)⟩
     |ok q =>
      obtain⟨⟨n',k'⟩,s'⟩:=q;have hg:=be rfl;simp only at hI;refine fQ g ?_ (by rintro r m ⟨e,_⟩;cases e);rintro r m ⟨e,aw,t⟩;cases e;have ai:=t.len;simp only[qX,zz,List.length_nil]at ai;have I:∀ i,i<U.mu.length->i≠xb->m[i]?=U.mu[i]?:=fun i hi bg=>by rw[t.same i zSo bg,a0 i hi]
      have bh:∀ l,(m++l)[mu.length+2]?=some (.arr (cPd p)):=fun l=>by rw[zGa,I _ zOm zOm];exact gp
      have bi:∀ l,(m++l)[mu.length+3]?=some (.mp (encK aS eAP o)):=fun l=>by grind
      have hu:=fun l=>updAP (bi l) p.params[k].1 (m.length,k',n')
      simp[go_sem,ad,ae,bh,aa];refine tA _ (hu _) ?_;generalize hN:(m++[Cell.arr (cNd n')]).set (mu.length+3) (.mp (encK aS eAP (setK p.params[k].1 (m.length,k',n') o)))=N;have bv:N.length=m.length+1:=by rw[<-hN];simp
      have a4:∀ i,i<m.length->i≠mu.length+3->N[i]?=m[i]?:=fun i h1 h2=>by rw[<-hN,zGl,qG h1]
      have bj:N[mu.length+3]?=some (.mp (encK aS eAP (setK p.params[k].1 (m.length,k',n') o))):=by rw[<-hN,qI zSo]
      have bk:N[m.length]?=some (.arr (cNd n')):=by rw[<-hN,zGl,zE (qo _)];simp
      simp[go_sem,ag,w1];refine⟨a7,aK ?_⟩;have bm:k'<=4000:=zW2 hg.cz hg.c1;refine⟨setK p.params[k].1 (m.length,k',n') o,s',zS1 e0,zS1 e1,zS1 e3,zS1 e8,zS1 ad,zS1 ae,zS1 ar,zS1 af,zSi,?_,?_,?_,?_,?_,?_,?_,?_,uW ah,hg.ok a6,zW2 hg.cz hg.z0,?_⟩
      all_goals try simp only[qA]
      .refine ⟨zW1 C.len,fun i h1 h2=>?_⟩
       rw[a4 i zOm zOm,I i zOm h2];exact C.same i h1 h2
      .omega
      .rw [a4 _ zOm zOm];exact aw
      .rw [a4 _ zOm zOm,I _ zOm zOm];exact gr
      .rw [a4 _ zOm zOm,I _ zOm zOm];exact gp
      .exact bj
      .intro e he
       rcases (Zf ah).1 he with rfl|⟨he,_⟩
       .exact ⟨by show _<m.length;omega,by show m.length<_;omega,bk⟩
       .obtain ⟨a1,a2,a3⟩:=au e he
        exact⟨a1,zOm,by rw[a4 _ zOm zOm,I _ zOm zOm];exact a3⟩
      .unfold ownA
       rw[KB (fun a:AP=>ivA a)];exact a9.set ⟨hg.z0,bm⟩
      .unfold ownA
       rw[KB (fun a:AP=>ivA a)];exact hI
  grind
 .rintro r m ⟨rfl,e⟩
  by_cases T:s.sM+1<=4000
  .rw [if_pos T]at e;cases e
  .rw [if_neg T]at e J
   cases e;subst J;simp[go_sem];exact⟨rfl,(But.app xb mu _).trans (cR xb _ _)⟩
theorem qa8(op):decide (op=15\/op=45\/op=46)=binB op:=by
 grind [binB]
theorem Zh{lo sz mu' av xs}(h:OwnF lo mu sz av xs)(l:lo<=mu'.length)(o:∀ i,lo<=i->i<mu.length->mu'[i]?=mu[i]?):OwnF lo mu' sz av xs:=by
 obtain⟨p,g,_⟩:=h;refine⟨?_,g,l⟩;rcases p with rfl|⟨b,rfl,j⟩
 .exact .inl rfl
 .exact .inr ⟨b,rfl,by rw[o b (g b _ _ _ rfl) (qg.1 j).1];exact j⟩
theorem UJ(l:List Nd):zc 5 (l.map cNd):=fun r g=>by
 obtain⟨n,_,rfl⟩:=qi.1 g
 grind [Ya,Yb]
theorem UK{lo s xs k K}(j:OwnF lo mu 5 s (xs.map cNd))(l:xs.length<=100000)(o:∀ av mu',OwnF lo mu' 5 av ((xs++[k]).map cNd)->(∀ i,i<lo->mu'[i]?=mu[i]?)->K av mu') :
  qu qb mu #[33,33] s (.lst true [cNd k]) K:=by
 refine qu.ownF (lo:=lo) (e:=35) (sz:=5) (bt:=64) (zv := .agg [aI 0,aS ⟨#[]⟩,aI 0,.lst true [],aI 0]) (xs:=xs.map cNd) (ys:=[cNd k]) zSi zSi zSi rfl rfl zOm zOm j (by simp[qz]) (UJ xs) (UJ [k]) zSo ?_
 grind
theorem qnT(ts)(h:okTS ts)(es)(hF:qk ts es<=200000)(ax:Free ts es)(tb f)(ih:IHE ts es tb f)(env n body)(s:ISt)(mu xb)
  (hc:4000<s.sM+(f+1:Nat)) (hs:StOk (qk ts es) s) (he:zo env) (hw:WfN n) (bo:yK ts n) (hx:mu[xb]?=some (.arr (cIn ts tb s))) (ht:mu[tb]?=some (.mp (eSet es))) (h1:¬n.op=1) (h47:¬n.op=47) :
  qy qb 79 [.ptr xb 0,eEnv env,eNd n,aB body] mu (endE ts tb mu xb (expI ts es (f+1) env n body s)):=by
 have cx:=hs.c0;have cy:=hs.c1;have da:xb<mu.length:=(qg.1 hx).1;have cj:tb<mu.length:=(qg.1 ht).1;have bt:tb≠xb:=fun e=>by grind
 generalize hR:expI ts es (f+1) env n body s=R;simp only[expI,h1,h47,if_false]at hR;refine fH ?_;refine qSW call79 func79 rfl { mt:=[6] } ?_;simp[go_sem];refine fQ (payU ts tb s 1 ⟨zOm,zOm⟩ ⟨zOm,zOm⟩ (by grind)) ?_ ?_
 .rintro r m ⟨rfl,e⟩
  by_cases a8:s.sM+1<=4000
  .rw [if_pos a8]at e hR
   cases e;have hM:=M0.of (s':=payS 1 s) (n:=n) hx ht;generalize db:(mu++[Cell.arr (cNd n),.arr [aI 0,aS ⟨#[]⟩,aI 0,.lst true [],aI 0]]).set xb (.arr (cIn ts tb (payS 1 s)))=M at *
   have dc:=hM.len;have bu:=hw.len;have ay:StOk (qk ts es) (payS 1 s):=(Qb hs zOm a8).ok hs;have bv:∀ c,(M.set mu.length c)[mu.length]?=some c:=fun c=>qI zOm
   have ck:=yx n;simp[go_sem,hM.n,h1,h47,ck];refine kT n.sD.length (fun k U=>∃(J:List Nd) (j:IEnv) (I:tG) (s2:ISt) (t:AV) (z:Int),U.tm 0 = .ptr xb 0/\U.tm 1=eEnv j/\U.tm 3=aB body/\U.tm 6 = .ptr mu.length 0/\U.tm 8 = .ptr (mu.length+1) 0/\U.tm 17=aI z/\U.tm 87=lNd n.sD/\U.tm 88=aI n.sD.length/\U.tm 89=aI k /\
    But xb mu U.mu/\U.mu[xb]?=some (.arr (cIn ts tb s2))/\U.mu[mu.length+1]?=some (.arr [aI 0,aS ⟨#[]⟩,aI 0,.lst true [],aI 0])/\U.mu[mu.length]?=some (.arr [aI n.op,aS I,aI n.n,t,aI n.pos])/\OwnF (mu.length+2) U.mu 5 t (J.map cNd)/\zo j/\J.length=k /\
    0<=s2.last/\0<=s2.sM/\s2.sM<=4000/\dueN (qk ts es) (binB n.op) k<=pot (qk ts es) s2/\s.sM+1<=s2.sM/\1<=z/\z<=s2.sM-s.sM /\
    vP (yJ (fun env k s=>expI ts es f env k body s) (fun env o s=>renI ts es env o body s) (binB n.op) k j I (n.sD.drop k) s2) (fun r s' => .ok ((.mk n.op r.1 n.n (J++r.2.1) n.pos,z+r.2.2),s'))=R) ?_ ?_
   .refine ⟨[],env,n.name,payS 1 s,.lst true [],1,zSi,zSi,zSi,zSi,zSi,zSi,zSi,zSi,zSi,?_,?_,?_,?_,?_,he,rfl,ay.l0,ay.c0,ay.c1,?_,by show _<=s.sM+1;omega,zOm,by show _<=s.sM+1-_;omega,zUs hR⟩
    all_goals try simp only[qA]
    .exact hM.but.setN (qo _) _
    .grind
    .grind
    .exact bv _
    .grind [OwnF.nil]
    .rw [ZP];have:=hs.p;grind [dueN]
   .rintro k U hk ⟨J,j,I,s2,t,z,e0,e1,e3,e6,e8,be,aq,ah,ai,a9,gx,gr,gn,go,bg,dd,ar,bh,bi,bk,aj,de,bq,hI⟩
    have gt:U.mu[tb]?=some (.mp (eSet es)):=by rw[a9.same tb cj bt];exact ht
    have cw:mu.length+2<=U.mu.length:=go.2.2;by_cases bu:k=n.sD.length
    .subst bu
     have bw:=go.cells;have bm:=go.one;have br:∀ c,(U.mu.set (mu.length+1) c)[mu.length+1]?=some c:=fun c=>qI zOm
     rw[yh]at hI;have hI:R = .ok ((.mk n.op I n.n J n.pos,z),s2):=by grind [yJ,vP]
     simp[go_sem,e6,e8,be,ah,ai,gn,gr,bm,br];rw[hI];have bs:(U.mu.set (mu.length+1) (.arr [aI n.op,aS I,aI n.n,t,aI n.pos])).length=U.mu.length:=zSp;refine .inr ⟨fun i=>decide (mu.length+2<=i),.tup [eNd (.mk n.op I n.n J n.pos),aI z],.rd _ _ (.tup _ _ rfl fun k x y hx hy=>?_),rfl,?_,?_⟩
     .match k with
      | 0 =>
       simp at hx hy;subst hx;subst hy;have cl:eNd (.mk n.op I n.n J n.pos) = .agg [aI n.op,aS I,aI n.n,.lst false (J.map cNd),aI n.pos]:=by
        show AV.agg (cNd _)=_;rw[yx];rfl
       rw[cl];refine .agg _ _ rfl fun k x y hx hy=>?_
       match k with
       | 0=>simp at hx hy;subst hx;subst hy;exact .zsc _
       | 1=>simp at hx hy;subst hx;subst hy;exact .zsc _
       | 2=>simp at hx hy;subst hx;subst hy;exact .zsc _
       | 3 =>
        simp at hx hy;subst hx;subst hy;exact X0 (go.set zOm) (UJ J).ok fun r hr c hc=>by
         obtain⟨x,_,rfl⟩:=qi.1 hr;exact vj x c hc
       | 4=>simp at hx hy;subst hx;subst hy;exact .zsc _
       |k+5=>simp at hx
      | 1=>simp at hx hy;subst hx;subst hy;exact .zsc _
      |k+2=>simp at hx
     .rw [vO zSo,zGl];exact gx
     .exact (a9.setN zOm _).cut fun i hi=>zSo
    .have a5:k<n.sD.length:=by omega
     have w1:=zWk k;have w2:qm.wrap 2=2:=rfl;rw[zm a5]at hI;simp only[yJ]at hI;have g:∀(l:List Cell)(i:Nat),i<U.mu.length->(U.mu++l)[i]?=U.mu[i]?:=fun l i hi=>qG hi
     have au:∀ l,(U.mu++l)[mu.length]?=some (.arr [aI n.op,aS I,aI n.n,t,aI n.pos]):=fun l=>by rw[g l _ zOm];exact gn
     have bw:=go.cells;have bm:=go.one;by_cases hb:binB n.op=true/\k=1
     .obtain ⟨az,rfl⟩:=hb
      rw[if_pos ⟨az,rfl⟩]at hI;have b0:(1:Int)<n.sD.length:=zOm;simp[go_sem,b0,e6,aq,ah,ai,a5,au];have b1:=YX.mz n.op;rw[qa8,az]at b1;refine tC b1 (.zs .nil) ?_;have cm:=StOk.last (F:=qk ts es) ⟨ar,bh,bi,zW1 (ZQ (qk ts es) (binB n.op) 1)⟩;have ca:=qnI ts h s2 es ⟨ar,zOm⟩ tb (ax _ ar) j bg.nd I body (mu:=U.mu++[Cell.arr (cNd n.sD[1])]) (xb:=xb) (by rw[g _ _ zOm];exact gx) (by rw[g _ _ zOm];exact gt);have ak:=J8 (env:=j) (nm:=I) (body:=body) ax ar;have cb:=J7 (ts:=ts) (es:=es) (nm:=I) (body:=body) (s:=s2) bg;generalize renI ts es j I body s2=r at *
      obtain⟨⟨a6,aw⟩,s3⟩:=r;simp only at ak cb hI;simp[go_sem,e0,e1,e3,e6,au];refine fQ ca ?_ (by rintro r m ⟨e,_⟩;cases e);rintro r m1 ⟨e,a7,cn⟩;cases e;have cc:=a7.len;simp only[qX,zz,List.length_nil]at cc;have cp:m1[mu.length]?=some (.arr [aI n.op,aS I,aI n.n,t,aI n.pos]):=by rw[a7.same _ zSo zOm];exact au _
      have cq:m1[mu.length+1]?=some (.arr [aI 0,aS ⟨#[]⟩,aI 0,.lst true [],aI 0]):=by rw[a7.same _ zSo zOm,g _ _ zOm];exact gr
      have cr:m1[U.mu.length]?=some (.arr (cNd n.sD[1])):=by rw[a7.same _ zSp zOm,zE (qo _)];simp
      have cs:m1[tb]?=some (.mp (eSet es)):=by rw[a7.same _ zSo bt,g _ _ zOm];exact gt
      have ct:OwnF (mu.length+2) m1 5 t (J.map cNd):=Zh go zOm fun i q1 q2=>by rw[a7.same i zSo zOm,g _ _ q2]
      have an:∀ c i,i≠mu.length->(m1.set mu.length c)[i]?=m1[i]?:=fun c i hi=>yu (fun e=>hi e.symm)
      have cu:∀ c,(m1.set mu.length c)[U.mu.length]?=some (.arr (cNd n.sD[1])):=fun c=>by rw[an _ _ zOm];exact cr
      simp[go_sem,e0,e3,e6,cp,cu];generalize al:m1.set mu.length (.arr [aI n.op,aS aw,aI n.n,t,aI n.pos])=M2;have bn:U.mu.length+1<=M2.length:=by rw[<-al];simp;omega
      have b2:M2[xb]?=some (.arr (cIn ts tb s3)):=by rw[<-al,an _ _ zOm];exact cn
      have b3:M2[tb]?=some (.mp (eSet es)):=by rw[<-al,an _ _ zOm];exact cs
      have b4:M2[mu.length]?=some (.arr [aI n.op,aS aw,aI n.n,t,aI n.pos]):=by rw[<-al];exact qI zOm
      have b5:M2[mu.length+1]?=some (.arr [aI 0,aS ⟨#[]⟩,aI 0,.lst true [],aI 0]):=by rw[<-al,an _ _ zOm];exact cq
      have a4:OwnF (mu.length+2) M2 5 t (J.map cNd):=by rw[<-al];exact ct.set zOm
      have aa:But xb mu M2:=by
       rw[<-al];exact(a9.trans ((But.app xb U.mu _).trans a7)).setN (qo _) _
      have df:dueN (qk ts es) (binB n.op) 1=(qk ts es:Nat):=if_pos ⟨az,zOm⟩;have dh:dueN (qk ts es) (binB n.op) (1+1)=0:=zIn;have di:pot (qk ts es) s2-(qk ts es:Nat)<=pot (qk ts es) s3:=by unfold pot;rw[ak.2.2];omega
      have a3:StOk (qk ts es) s3:=⟨ak.1,by rw[ak.2.2];exact bh,by rw[ak.2.2];exact bi,zOm⟩;have b6:dueN (qk ts es) (binB n.op) (1+1)<=pot (qk ts es) s3:=zOm;have ao:s.sM+1<=s3.sM:=by rw[ak.2.2];exact aj
      have cd:z<=s3.sM-s.sM:=by rw[ak.2.2];exact bq
      have T:zo a6:=cb;have bj:True:=trivial;have ab:n.sD[1]∈n.sD:=qn a5;have a0:=ih a6 n.sD[1] body s3 M2 xb zOm a3 T (hw.kid ab) (bo.kid ab) b2 b3;have b7:∀{n' z s'},expI ts es f a6 n.sD[1] body s3 = .ok ((n',z),s')->Gos (qk ts es) s3 s' z:=fun e=>jG ts ax f a3 T e
      generalize hE:expI ts es f a6 n.sD[1] body s3=E at *
      cases E with
      |error d =>
       have hI:R = .error d:=hI.symm;subst hI;refine fQ a0 (by rintro r m ⟨e,_⟩;cases e) ?_;rintro r m ⟨e,C⟩;cases e;simp[go_sem];exact⟨rfl,aa.trans C⟩
      |ok q =>
       obtain⟨⟨n',k'⟩,s'⟩:=q;have P:=b7 rfl;simp only at hI;refine fQ a0 ?_ (by rintro r m ⟨e,_⟩;cases e);rintro r m ⟨e,b8,C⟩;cases e;have bs:=C.len;have ad:∀ l,(m++l)[mu.length]?=some (.arr [aI n.op,aS aw,aI n.n,t,aI n.pos]):=fun l=>by rw[zGa,C.same _ zOm zOm];exact b4
       have a8:=a4.cells;have cf:=a4.one;have b9:qm.wrap (z+k')=z+k':=zL (zW1 P.z0) (zW2 P.cz P.c1);have bb:OwnF (mu.length+2) (m++[Cell.arr (cNd n')]) 5 t (J.map cNd):=Zh a4 zSo fun i h1 h2=>by rw[zGa,C.same i zOm zOm]
       simp[go_sem,e6,ad];refine UK bb zOm fun bc m' a1 a2=>?_
       have cg:=a1.2.2;have ae:m'[mu.length]?=some (.arr [aI n.op,aS aw,aI n.n,t,aI n.pos]):=by rw[a2 _ zOm];exact ad _
       have af:=a1.cells;have ag:=a1.one;simp[go_sem,e6,be,ai,ae,af,ag,b9,w2];refine⟨a5,aK ?_⟩;refine⟨J++[n'],a6,aw,s',bc,z+k',zS1 e0,zSi,zS1 e3,zS1 e6,zS1 e8,zSi,zS1 aq,zS1 ah,zSi,?_,?_,?_,?_,?_,T,zSo,P.l0,zW2 P.cz P.z0,P.c1,Int.le_trans b6 P.p,zW2 P.cz P.z0,zW1 P.z0,zW1 P.cz,?_⟩
       all_goals try simp only[qA]
       .refine ⟨zSo,fun i h1 h2=>?_⟩
        rw[zGl,a2 i zOm,zGa,C.same i zOm h2];exact aa.same i h1 h2
       .rw [zGl,a2 _ zOm,zGa];exact b8
       .rw [zGl,a2 _ zOm,zGa,C.same _ zOm zOm];exact b5
       .exact qI zOm
       .exact a1.set zOm
       .rw [<-hI]
        generalize yJ (fun env k s=>expI ts es f env k body s) (fun env o s=>renI ts es env o body s) (binB n.op) (1+1) a6 aw (n.sD.drop (1+1)) s'=W;cases W with
        |error e=>rfl
        |ok q=>simp[vP,Int.add_assoc]
     .rw [if_neg hb]at hI
      by_cases cv:k=1
      .subst cv
       have a7:binB n.op=false:=zUs hb;have b0:(1:Int)<n.sD.length:=zOm;simp[go_sem,b0,e6,aq,ah,ai,a5,au];have b1:=YX.mz n.op;rw[qa8,a7]at b1;refine tC b1 (.zs .nil) ?_;simp[go_sem,e0,e1,e3];have bn:U.mu.length+1<=(U.mu++[Cell.arr (cNd n.sD[1])]).length:=zSp;have b2:(U.mu++[Cell.arr (cNd n.sD[1])])[xb]?=some (.arr (cIn ts tb s2)):=by rw[g _ _ zOm];exact gx
       have b3:(U.mu++[Cell.arr (cNd n.sD[1])])[tb]?=some (.mp (eSet es)):=by rw[g _ _ zOm];exact gt
       have b4:=au [Cell.arr (cNd n.sD[1])];have b5:(U.mu++[Cell.arr (cNd n.sD[1])])[mu.length+1]?=some (.arr [aI 0,aS ⟨#[]⟩,aI 0,.lst true [],aI 0]):=by rw[g _ _ zOm];exact gr
       have a4:OwnF (mu.length+2) (U.mu++[Cell.arr (cNd n.sD[1])]) 5 t (J.map cNd):=Zh go zOm fun i q1 q2=>g _ _ q2
       have aa:But xb mu (U.mu++[Cell.arr (cNd n.sD[1])]):=a9.trans (But.app xb U.mu _);have a3:StOk (qk ts es) s2:=⟨ar,bh,bi,zW1 (ZQ (qk ts es) (binB n.op) 1)⟩;have b6:dueN (qk ts es) (binB n.op) (1+1)<=pot (qk ts es) s2:=by rw[<-UI hb];exact bk
       have ao:=aj;have cd:=bq;have T:=bg;have bj:=e1;generalize U.mu++[Cell.arr (cNd n.sD[1])]=M2 at *
       have ab:n.sD[1]∈n.sD:=qn a5;have a0:=ih j n.sD[1] body s2 M2 xb zOm a3 T (hw.kid ab) (bo.kid ab) b2 b3;have b7:∀{n' z s'},expI ts es f j n.sD[1] body s2 = .ok ((n',z),s')->Gos (qk ts es) s2 s' z:=fun e=>jG ts ax f a3 T e
       generalize hE:expI ts es f j n.sD[1] body s2=E at *
       cases E with
       |error d =>
        have hI:R = .error d:=hI.symm;subst hI;refine fQ a0 (by rintro r m ⟨e,_⟩;cases e) ?_;rintro r m ⟨e,C⟩;cases e;simp[go_sem];exact⟨rfl,aa.trans C⟩
       |ok q =>
        obtain⟨⟨n',k'⟩,s'⟩:=q;have P:=b7 rfl;simp only at hI;refine fQ a0 ?_ (by rintro r m ⟨e,_⟩;cases e);rintro r m ⟨e,b8,C⟩;cases e;have bs:=C.len;have ad:∀ l,(m++l)[mu.length]?=some (.arr [aI n.op,aS I,aI n.n,t,aI n.pos]):=fun l=>by rw[zGa,C.same _ zOm zOm];exact b4
        have a8:=a4.cells;have cf:=a4.one;have b9:qm.wrap (z+k')=z+k':=zL (zW1 P.z0) (zW2 P.cz P.c1);have bb:OwnF (mu.length+2) (m++[Cell.arr (cNd n')]) 5 t (J.map cNd):=Zh a4 zSo fun i h1 h2=>by rw[zGa,C.same i zOm zOm]
        simp[go_sem,e6,ad];refine UK bb zOm fun bc m' a1 a2=>?_
        have cg:=a1.2.2;have ae:m'[mu.length]?=some (.arr [aI n.op,aS I,aI n.n,t,aI n.pos]):=by rw[a2 _ zOm];exact ad _
        have af:=a1.cells;have ag:=a1.one;simp[go_sem,e6,be,ai,ae,af,ag,b9,w2];refine⟨a5,aK ?_⟩;refine⟨J++[n'],j,I,s',bc,z+k',zS1 e0,zS1 bj,zS1 e3,zS1 e6,zS1 e8,zSi,zS1 aq,zS1 ah,zSi,?_,?_,?_,?_,?_,T,zSo,P.l0,zW2 P.cz P.z0,P.c1,Int.le_trans b6 P.p,zW2 P.cz P.z0,zW1 P.z0,zW1 P.cz,?_⟩
        all_goals try simp only[qA]
        .refine ⟨zSo,fun i h1 h2=>?_⟩
         rw[zGl,a2 i zOm,zGa,C.same i zOm h2];exact aa.same i h1 h2
        .rw [zGl,a2 _ zOm,zGa];exact b8
        .rw [zGl,a2 _ zOm,zGa,C.same _ zOm zOm];exact b5
        .exact qI zOm
        .exact a1.set zOm
        .rw [<-hI]
         generalize yJ (fun env k s=>expI ts es f env k body s) (fun env o s=>renI ts es env o body s) (binB n.op) (1+1) j I (n.sD.drop (1+1)) s'=W;cases W with
         |error e=>rfl
         |ok q=>simp[vP,Int.add_assoc]
      .have ch:¬(k:Int)=1:=by omega
       simp[go_sem,e0,e1,e3,aq,ah,ai,a5,ch];have bn:U.mu.length+1<=(U.mu++[Cell.arr (cNd n.sD[k])]).length:=zSp;have b2:(U.mu++[Cell.arr (cNd n.sD[k])])[xb]?=some (.arr (cIn ts tb s2)):=by rw[g _ _ zOm];exact gx
       have b3:(U.mu++[Cell.arr (cNd n.sD[k])])[tb]?=some (.mp (eSet es)):=by rw[g _ _ zOm];exact gt
       have b4:=au [Cell.arr (cNd n.sD[k])];have b5:(U.mu++[Cell.arr (cNd n.sD[k])])[mu.length+1]?=some (.arr [aI 0,aS ⟨#[]⟩,aI 0,.lst true [],aI 0]):=by rw[g _ _ zOm];exact gr
       have a4:OwnF (mu.length+2) (U.mu++[Cell.arr (cNd n.sD[k])]) 5 t (J.map cNd):=Zh go zOm fun i q1 q2=>g _ _ q2
       have aa:But xb mu (U.mu++[Cell.arr (cNd n.sD[k])]):=a9.trans (But.app xb U.mu _);have a3:StOk (qk ts es) s2:=⟨ar,bh,bi,zW1 (ZQ (qk ts es) (binB n.op) k)⟩;have b6:dueN (qk ts es) (binB n.op) (k+1)<=pot (qk ts es) s2:=by rw[<-UI hb];exact bk
       have ao:=aj;have cd:=bq;have T:=bg;have bj:=e1;generalize U.mu++[Cell.arr (cNd n.sD[k])]=M2 at *
       have ab:n.sD[k]∈n.sD:=qn a5;have a0:=ih j n.sD[k] body s2 M2 xb zOm a3 T (hw.kid ab) (bo.kid ab) b2 b3;have b7:∀{n' z s'},expI ts es f j n.sD[k] body s2 = .ok ((n',z),s')->Gos (qk ts es) s2 s' z:=fun e=>jG ts ax f a3 T e
       generalize hE:expI ts es f j n.sD[k] body s2=E at *
       cases E with
       |error d =>
        have hI:R = .error d:=hI.symm;subst hI;refine fQ a0 (by rintro r m ⟨e,_⟩;cases e) ?_;rintro r m ⟨e,C⟩;cases e;simp[go_sem];exact⟨rfl,aa.trans C⟩
       |ok q =>
        obtain⟨⟨n',k'⟩,s'⟩:=q;have P:=b7 rfl;simp only at hI;refine fQ a0 ?_ (by rintro r m ⟨e,_⟩;cases e);rintro r m ⟨e,b8,C⟩;cases e;have bs:=C.len;have ad:∀ l,(m++l)[mu.length]?=some (.arr [aI n.op,aS I,aI n.n,t,aI n.pos]):=fun l=>by rw[zGa,C.same _ zOm zOm];exact b4
        have a8:=a4.cells;have cf:=a4.one;have b9:qm.wrap (z+k')=z+k':=zL (zW1 P.z0) (zW2 P.cz P.c1);have bb:OwnF (mu.length+2) (m++[Cell.arr (cNd n')]) 5 t (J.map cNd):=Zh a4 zSo fun i h1 h2=>by rw[zGa,C.same i zOm zOm]
        simp[go_sem,e6,ad];refine UK bb zOm fun bc m' a1 a2=>?_
        have cg:=a1.2.2;have ae:m'[mu.length]?=some (.arr [aI n.op,aS I,aI n.n,t,aI n.pos]):=by rw[a2 _ zOm];exact ad _
        have af:=a1.cells;have ag:=a1.one;simp[go_sem,e6,be,ai,ae,af,ag,b9,w1];refine⟨a5,aK ?_⟩;refine⟨J++[n'],j,I,s',bc,z+k',zS1 e0,zS1 bj,zS1 e3,zS1 e6,zS1 e8,zSi,zS1 aq,zS1 ah,zSi,?_,?_,?_,?_,?_,T,zSo,P.l0,zW2 P.cz P.z0,P.c1,Int.le_trans b6 P.p,zW2 P.cz P.z0,zW1 P.z0,zW1 P.cz,?_⟩
        all_goals try simp only[qA]
        .refine ⟨zSo,fun i h1 h2=>?_⟩
         rw[zGl,a2 i zOm,zGa,C.same i zOm h2];exact aa.same i h1 h2
        .rw [zGl,a2 _ zOm,zGa];exact b8
        .rw [zGl,a2 _ zOm,zGa,C.same _ zOm zOm];exact b5
        .exact qI zOm
        .exact a1.set zOm
        .rw [<-hI]
         generalize yJ (fun env k s=>expI ts es f env k body s) (fun env o s=>renI ts es env o body s) (binB n.op) (k+1) j I (n.sD.drop (k+1)) s'=W;cases W with
         |error e=>rfl
         |ok q=>simp[vP,Int.add_assoc]
  grind
 .rintro r m ⟨rfl,e⟩
  by_cases a8:s.sM+1<=4000
  .rw [if_pos a8]at e;cases e
  .rw [if_neg a8]at e hR
   cases e;subst hR;simp[go_sem];exact⟨rfl,(But.app xb mu _).trans (cR xb _ _)⟩
theorem KC(ts)(h:okTS ts)(C:∀ p,p∈ts.sT->WfN p.body/\yK ts p.body)(es)(l:qk ts es<=200000)(g:Free ts es)(tb):∀ f,IHE ts es tb f
 | 0=>fun env n body s mu xb I j o J i r t=>zW1 j.c1
 |f+1=>fun env n body s mu xb I j o J i r t=>by
  by_cases P:n.op=1
  .have:=qnQ ts es tb env n body s mu xb j o r t P
   simp_all[expI,vK,payS,if_true]
  .by_cases h47:n.op=47
   .exact qnS ts h C es l g tb f (KC ts h C es l g tb f) env n body s mu xb I j o J i r t h47
   .exact qnT ts h es l g tb f (KC ts h C es l g tb f) env n body s mu xb I j o J i r t P h47
end
end YD
namespace YE
open P1 P2 Y1 Y9 YX YZ YB YC YD
mutual
def cntT:Nd->Int
 | .mk _ _ _ ks _=>1+jd ks
def jd:List Nd->Int
 | []=>0
 |k :: ks=>cntT k+jd ks
end
theorem KD(n):cntT n=1+jd n.sD:=by
 obtain⟨op,o,i,ks,p⟩:=n;simp[cntT,Nd.sD]
mutual
theorem KE:∀ n:Nd,1<=cntT n
 | .mk _ _ _ ks _=>by simp only[cntT];have:=UL ks;omega
theorem UL:∀ ks:List Nd,0<=jd ks
 | []=>by simp[jd]
 |k :: ks=>by simp only[jd];have:=KE k;have:=UL ks;omega
end
mutual
theorem KF:∀ n:Nd,depN n<=cntT n
 | .mk _ _ _ ks _=>by simp only[cntT,depN];have:=qa9 ks;omega
theorem qa9:∀ ks:List Nd,yn ks<=jd ks
 | []=>by simp[yn,jd]
 |k :: ks=>by
  simp only[jd,yn];have:=KF k;have:=qa9 ks;have:=KE k;have:=UL ks;omega
end
section
variable {J:Type}{R:IEnv->tG->ISt->(IEnv×tG)×ISt}{es:List (tG×Bool)}{E:Nd->ISt->XR (Nd×Int)}
def uG(env:IEnv):Prop:=∀ e,e∈env->∀ a,e.2.arg=some a->e.2.size=cntT a/\Small a
theorem KG{g}[DecidableEq g]{k v}:∀{es:List (g×J)},getK k es=some v->(k,v)∈es
 | [],h=>by simp[getK]at h
 |e :: es,h=>by
  unfold getK at h;split at h
  .rename_i i;cases h;subst i;exact zd ..
  .exact qW _ (KG h)
theorem UM{g}[DecidableEq g]{k v}:∀{es}{x:g×J},x∈setK k v es->x=(k,v)\/x∈es
 | [],x,h=>by grind [setK]
 |e :: es,x,h=>by
  unfold setK at h;split at h
  .rcases qt.1 h with h|h
   .exact .inl h
   .exact .inr (qW _ h)
  .rcases qt.1 h with h|h
   .exact .inr (by rw[h];exact zd ..)
   .exact (UM h).imp id (qW _)
theorem qnU{ts env nm body s}(h:uG env):uG (renI ts es env nm body s).1.1:=by
 have i:uG (delK nm env):=fun e g=>h e (Xg.subset g)
 unfold renI;split
 .intro e g a j
  rcases UM g with rfl|g
  .cases j
  .exact i e g a j
 .exact i
theorem qbA:∀{ks ps own g s s'},(∀ k n' z s s',k∈ks->E k s = .ok ((n',z),s')->z=cntT n'/\Small n')->uG own->ji E ps ks own s = .ok (g,s')->uG g
 | [],ps,own,g,s,s',_,i,e=>by
  have e:Except.ok (own,s)=(Except.ok (g,s'):XR IEnv):=by cases ps<;>exact e
  cases e;exact i
 |k :: ks,[],own,g,s,s',_,i,e=>by cases e;exact i
 |k :: ks,p :: ps,own,g,s,s',l,i,e=>by
  simp only[ji]at e;split at e
  .cases e
  .rename_i t m s1 C
   refine qbA (fun k n' z s s' o=>l k n' z s s' (qW _ o)) (fun e j a r=>?_) e;rcases UM j with rfl|j
   .grind
   .exact i e j a r
theorem qbB{E bin}(C:∀ env nm s,uG env->uG (R env nm s).1.1) :
  ∀{ks i env nm l s s' j m},(∀ env k n' z s s',k∈ks->uG env->E env k s = .ok ((n',z),s')->z=cntT n'/\Small n')->uG env ->
  yJ E R bin i env nm ks s = .ok ((l,j,m),s')->m=jd j/\j.length=ks.length/\∀ k,k∈j->Small k
 | [],i,env,nm,l,s,s',j,m,_,_,e=>by
  cases e;exact⟨rfl,rfl,fun k p=>absurd p qF⟩
 |k :: ks,i,env,nm,l,s,s',j,m,I,J,e=>by
  simp only[yJ]at e;obtain⟨r,P⟩:∃ r,r=if bin=true/\i=1 then R env nm s else ((env,nm),s):=⟨_,rfl⟩
  rw[<-P]at e;have o:uG r.1.1:=by
   rw[P];split
   .exact C _ _ _ J
   .exact J
  split at e
  .cases e
  .rename_i T U s1 h1
   have g:=I r.1.1 k T U r.2 s1 (zd ..) o h1;split at e
   .cases e
   .rename_i a0 a1 m2 s2 h2
    obtain⟨q1,q2,q3⟩:=qbB C (fun env k n' z s s' p=>I env k n' z s s' (qW _ p)) o h2;cases e;refine⟨by simp only[jd];rw[g.1,q1],zP1 q2,fun x t=>?_⟩;rcases qt.1 t with rfl|t
    .exact g.2
    .exact q3 x t
theorem Yy(ts)(r:∀ p,p∈ts.sT->WfN p.body)(es):∀(f){env n n' body s s' z},uG env->WfN n->expI ts es f env n body s = .ok ((n',z),s')->z=cntT n'/\Small n'
 | 0,_,_,_,_,_,_,_,_,_,e=>by cases e
 |f+1,env,n,n',body,s,s',z,j,l,e=>by
  simp only[expI]at e;split at e
  .split at e
   .rename_i P
    have g:n.sD=[]:=by
     have hs:=l.shape;simp_all[shp,if_pos,qr,List.map_eq_nil_iff]
    unfold vK at e;split at e
    .cases e
     exact⟨by rw[KD,g];rfl,l.small⟩
    .rename_i v t
     split at e
     .cases e
      refine⟨by rw[KD];show 1=1+jd n.sD;rw[g];rfl,.mk _ (by show n.sD.length<=1000;rw[g];simp) fun k i=>?_⟩;have i:k∈n.sD:=i
      grind
     .rename_i a R
      split at e
      .cases e
       exact j _ (KG t) _ R
      .cases e
   .split at e
    .split at e
     .cases e
     .rename_i p T
      obtain⟨own,s1,C,e⟩:=Yx e;have U:=qbA (fun k n' z s s' i I=>Yy ts r es f j (l.kid i) I) (fun e j=>absurd j qF) C;exact Yy ts r es f U (r p (List.mem_of_find?_eq_some T)) e
    .obtain ⟨⟨a0,J,m⟩,s1,C,e⟩:=Yx e
     cases e;obtain⟨q1,q2,q3⟩:=qbB (fun env o s h=>qnU h) (fun env k n' z s s' i t I=>Yy ts r es f t (l.kid i) I) j C;refine⟨by rw[KD];show 1+m=_;rw[q1];rfl,.mk _ ?_ q3⟩;show J.length<=1000;have:=l.len;omega
  .cases e
theorem qbC:∀{ks ps own s d},(∀ k s d,E k s = .error d->d=(2,0))->ji E ps ks own s = .error d->d=(2,0)
 | [],ps,own,s,d,_,e=>by
  have e:Except.ok (own,s)=(Except.error d:XR IEnv):=by cases ps<;>exact e
  cases e
 |k :: ks,[],own,s,d,_,e=>by cases e
 |k :: ks,p :: ps,own,s,d,g,e=>by
  simp only[ji]at e;split at e
  .rename_i j i
   cases e;exact g _ _ _ i
  .exact qbC g e
theorem qbD{E:IEnv->Nd->ISt->XR (Nd×Int)}{bin}:∀{ks i env nm s d},(∀ env k s d,E env k s = .error d->d=(2,0))->yJ E R bin i env nm ks s = .error d->d=(2,0)
 | [],i,env,nm,s,d,_,e=>by cases e
 |k :: ks,i,env,nm,s,d,g,e=>by
  simp only[yJ]at e;split at e
  .rename_i j l
   cases e;exact g _ _ _ _ l
  .split at e
   .rename_i j o
    cases e;exact qbD g o
   .cases e
theorem qbE{i q}{g:J->ISt->XR i}{d}(h:vP q g = .error d):q = .error d\/∃ a s,q = .ok (a,s)/\g a s = .error d:=by
 unfold vP at h;split at h
 .grind
 .exact .inr ⟨_,_,rfl,h⟩
theorem J9(ts es):∀(f){env n body s d},expI ts es f env n body s = .error d->d=(2,0)
 | 0,_,_,_,_,_,e=>by cases e;rfl
 |f+1,env,n,body,s,d,e=>by
  simp only[expI]at e;split at e
  .split at e
   .unfold vK at e
    split at e
    .cases e
    .split at e
     .cases e
     .split at e
      .cases e
      .cases e;rfl
   .split at e
    .split at e
     .cases e;rfl
     .rcases qbE e with e|⟨own,g,i,e⟩
      .exact qbC (fun k s d h=>J9 ts es f h) e
      .exact J9 ts es f e
    .rcases qbE e with e|⟨own,g,i,e⟩
     .exact qbD (fun env k s d h=>J9 ts es f h) e
     .cases e
  .cases e;rfl
def outI(ts:TS)(es:List (tG×Bool))(n:Nd):Except Dg Nd:=
 match expI ts es 4001 [] n false ⟨0,0⟩ with
 | .error d => .error d
 | .ok ((g,z),_)=>if z<=400/\depN g<=24 then .ok g else .error (2,n.pos)
theorem qbF{ts n d}(h:outI ts es n = .error d):d.1=2:=by
 grind [outI,J9]
theorem qnV(ts)(h:okTS ts)(hb:∀ p,p∈ts.sT->WfN p.body/\yK ts p.body)(es)(hF:qk ts es<=200000)(R:Free ts es)(n)(hw:WfN n)(a4:yK ts n){mu xp ob xb tb}
  (h1:mu[xp]?=some (.arr [.ptr xb 0])) (T:mu[xb]?=some (.arr (cIn ts tb ⟨0,0⟩))) (ht:mu[tb]?=some (.mp (eSet es))) (U:mu[ob]?=some (.arr [aI 0,aS ⟨#[]⟩,aI 0,.lst true [],aI 0])) :
  qy qb 78 [.ptr xp 0,.ip (cNd n),.ptr ob 0] mu fun e m=>match outI ts es n with
   | .error d=>e = .pan (jE d.1 d.2)/\mu.length<=m.length/\∀ i,i<mu.length->i≠xb->i≠ob->m[i]?=mu[i]?
   | .ok n'=>e = .ret (.tup [])/\m[ob]?=some (.arr (cNd n'))/\mu.length<=m.length/\∀ i,i<mu.length->i≠xb->i≠ob->m[i]?=mu[i]?:=by
 refine qSW call78 func78 rfl {} ?_;have ab:xp<mu.length:=(qg.1 h1).1;have ad:xb<mu.length:=(qg.1 T).1;have ae:tb<mu.length:=(qg.1 ht).1;have a5:ob<mu.length:=(qg.1 U).1;have a0:ob≠xb:=fun e=>by grind
 simp[go_sem,h1];have j:∀ i,i<mu.length->(cutM (fun i=>!decide (mu.length<=i)) (mu++[Cell.mp []]) 0)[i]?=mu[i]?:=fun i hi=>by grind [vO,qG]
 have a1:StOk (qk ts es) ⟨0,0⟩:=⟨zSp,zSp,zSp,by simp[pot]⟩;have g:=KC ts h hb es hF R tb 4001 [] n false ⟨0,0⟩ (cutM (fun i=>!decide (mu.length<=i)) (mu++[Cell.mp []]) 0) xb zSp a1 .nil hw a4 (by grind) (by grind);have g:=qy.freeze (mu:=mu++[Cell.mp []]) (args:=[.ptr xb 0,.mp mu.length,eNd n,aB false]) (args1:=[.ptr xb 0,eEnv [],eNd n,aB false]) (fun i=>decide (mu.length<=i)) ⟨.inl rfl,.inr (qa7 (acc:=[]) (by grind [vO]) zSp (fun e he=>absurd he qF)),.inl rfl,.inl rfl,trivial⟩ g;have a7:=fun {n' z P}=>Yy ts (fun p hp=>(hb p hp).1) es 4001 (env:=[]) (n:=n) (n':=n') (body:=false) (s:=⟨0,0⟩) (s':=P) (z:=z) (fun e he=>absurd he qF) hw
 have a8:=fun {n' z P}=>jG ts R 4001 (env:=[]) (n:=n) (n':=n') (body:=false) (s':=P) (z:=z) a1 .nil
 unfold outI;generalize expI ts es 4001 [] n false ⟨0,0⟩=E at *
 cases E with
 |error d =>
  refine fQ g (by rintro r m ⟨e,_⟩;cases e) ?_;rintro r m ⟨e,l⟩;cases e;have o:=l.len;rw[jz]at o;simp only[qX,zz,List.length_nil]at o;simp[go_sem];exact⟨zOm,fun i hi T U=>by rw[l.same i (by grind) T,j i hi]⟩
 |ok q =>
  obtain⟨⟨n',z⟩,P⟩:=q;obtain⟨hz,a9⟩:=a7 rfl;have hg:=a8 rfl;have ag:z<=4000:=by have:=hg.cz;have:=hg.c1;grind
  have ah:=KF n';refine fQ g ?_ (by rintro r m ⟨e,_⟩;cases e);rintro r m ⟨e,ai,l⟩;cases e;have o:=l.len;rw[jz]at o;simp only[qX,zz,List.length_nil]at o;have aa:m[ob]?=some (.arr [aI 0,aS ⟨#[]⟩,aI 0,.lst true [],aI 0]):=by rw[l.same _ (by grind) a0,j _ a5];exact U
  have t:∀ c,(m.set ob c)[ob]?=some c:=fun c=>qI zOm
  simp[go_sem,aa];have C:∀ c,mu.length<=(m.set ob c).length/\∀ i,i<mu.length->i≠xb->i≠ob->(m.set ob c)[i]?=mu[i]?:=fun c=>⟨zSo,fun i hi T U=>by
   rw[yu (fun e=>U e.symm),l.same i (by grind) T,j i hi]⟩
  have wz:∀ b c,WKs [aB b,aI c,eNd n] [aB b,aI c,eNd n]:=fun b c => .zs (.zs (.zk (qJ n) .nil))
  by_cases J:z<=400
  .have I:=qaU (szN n') n' (qo _) a9 zOm
   by_cases a3:depN n'<=24
   .refine cZ zKr ?_
    simp[go_sem,J,t];refine tC I (.zk (qJ n') .nil) ?_;simp[go_sem,a3];refine tC (zG true 2 n).toP (wz true 2) ?_;simp[go_sem,t]
    grind
   .refine qe.tail 8 zKr ?_
    simp[go_sem,J,t];refine tC I (.zk (qJ n') .nil) ?_;simp[go_sem,a3];refine fZ (zG false 2 n) (wz false 2) ?_;simp[go_sem];simpa using C _
  .refine qe.tail 8 zKr ?_
   simp[go_sem,J];refine fZ (zG false 2 n) (wz false 2) ?_;simp[go_sem];simpa using C _
end
end YE
namespace YG
open YS P1 Y1 Y9 YX YZ YA YB YC YE Q6
def valD(l:List UInt8):Nat:=l.foldl (fun a b=>10*a+(b.toNat-48)) 0
theorem qnW(u):valD (Lib.decDigits u)=u:=by
 induction u using Nat.strongRecOn with
 |_ u g =>
  rw[Lib.decDigits];split
  .rename_i h
   simp only[valD,List.foldl_cons,List.foldl_nil];rw[UInt8.toNat_ofNat_of_lt' (by simp[UInt8.size];omega)];omega
  .rename_i h
   have:=g (u / 10) zOm;unfold valD at this⊢;rw[vy,this];simp only[List.foldl_cons,List.foldl_nil];rw[UInt8.toNat_ofNat_of_lt' (by simp[UInt8.size];omega)];omega
theorem qnX{a b:Nat}(h:jm (a:Int)=jm (b:Int)):a=b:=by
 have g:Lib.decDigits a=Lib.decDigits b:=by
  unfold jm Lib.itoa at h;rw[zIn,zIn]at h;simp only[Int.toNat_natCast]at h;have h:=congrArg (fun x:tG=>x.data.toList) h;simpa using h
 grind [qnW]
theorem qnY{p a b:tG}(h:p++a=p++b):a=b:=by
 simp_all
theorem qbG{a b:Nat}(h:vN (a:Int)=vN (b:Int)):a=b:=qnX (qnY h)
def badL(ts:TS)(es:List (tG×Bool)):List tG:=es.map Prod.fst++(ts.sA.map (fun f=>f.name)++ts.sS.flatMap fun s=>[s.1,s.1++y6,s.1++jR])
theorem qnZ(ts es):(badL ts es).length+1=qk ts es:=by
 have:∀ l:List (tG×Bool),(l.flatMap fun s=>[s.1,s.1++y6,s.1++jR]).length=3*l.length:=by
  intro l;induction l with
  |nil=>rfl
  |cons a l g=>grind
 grind [badL,qk,qX,zK]
theorem qn0{ts es nm}(h:yB ts es nm=false):nm∈badL ts es:=by
 unfold yB at h;unfold badL;rw[Bool.and_eq_false_iff]at h;rcases h with h|h
 .have h:getK nm es=some true:=by simpa using h
  exact jj _ (qi.2 ⟨_,KG h,rfl⟩)
 .refine List.mem_append_right _ ?_
  have h:means ts nm≠[]:=zUs h;unfold means at h;by_cases hf:yF ts.sA nm=[]
  .rw [hf,vg]at h
   refine List.mem_append_right _ ?_;have:∀(g:List (tG×Bool))(i:Nat),yG i g nm≠[]->nm∈g.flatMap fun s=>[s.1,s.1++y6,s.1++jR]:=by
    intro g;induction g with
    |nil=>intro i h;exact absurd rfl h
    |cons s g t =>
     intro i h;rw[List.flatMap_cons,qH];by_cases j:vX i s nm=[]
     .refine .inr (t (i+1) ?_)
      simpa[yG,j] using h
     .left
      unfold vX at j;by_cases l:s.1=nm
      .simp [l]
      by_cases o:s.2=true/\s.1++y6=nm
      .simp [o.2]
      by_cases p:s.2=true/\s.1++jR=nm
      .simp [p.2]
      exact absurd (by simp[l,o,p]) j
   exact this ts.sS 0 h
  .refine jj _ ?_
   obtain⟨k,r⟩:=List.exists_mem_of_ne_nil _ hf;unfold yF at r;obtain⟨f,hf,e⟩:=List.mem_filterMap.1 r;split at e
   .rename_i C
    exact qi.2 ⟨f,hf,C⟩
   .cases e
theorem KH(ts es):Free ts es:=by
 intro l J;by_cases g:∃ j:Nat,1<=j/\j<=qk ts es/\yB ts es (vN (l+j))=true
 .exact g
 exfalso;obtain⟨L,rfl⟩:∃ L:Nat,l=L:=⟨l.toNat,zOm⟩;have o:∀ x,x∈(qq (qk ts es)).map (fun i=>vN ((L+(i+1):Nat):Int))->x∈badL ts es:=fun x t=>by
  obtain⟨i,C,rfl⟩:=qi.1 t;rw[zW]at C;refine qn0 ?_;cases I:yB ts es (vN ((L+(i+1):Nat):Int)) with
  |false=>rfl
  |true=>exact absurd ⟨i+1,zOm,zOm,by rw[show (L:Int)+((i+1:Nat):Int)=((L+(i+1):Nat):Int) by omega];exact I⟩ g
 have p:((qq (qk ts es)).map (fun i=>vN ((L+(i+1):Nat):Int))).Nodup:=by
  refine List.pairwise_map.2 (List.nodup_range.imp fun r e=>r ?_);have:=qbG e;omega
 have:=jL p o;rw[zK,List.length_range]at this;have:=qnZ ts es;omega
def putN(es:List (tG×Bool))(l:List Nd):List (tG×Bool):=l.foldl (fun es n=>setK n.name true es) es
def yO(ts:TS)(n:Nd):List (tG×Bool):=ts.sT.foldl (fun I p=>putN I (preN p.body)) (putN [] (preN n))
def yg(ts:TS)(n:Nd):Nd×Int:=
 if (yr ts [] n).1≠0 then (nd0,(yr ts [] n).1)
 else if anyN (fun n=>decide (n.op=47)) n=false then (n,0)
 else match outI ts (yO ts n) n with
  | .error d=>(nd0,d.1)
  | .ok g=>(g,0)
theorem UN(p):∀ m n,szN n<=m->anyN p n=(preN n).any p
 | 0,n,g=>by obtain⟨op,nm,i,ks,q⟩:=n;simp[szN]at g
 |m+1,n,g=>by
  rw[UB,u9,List.any_cons];congr 1;have:∀ l:List Nd,(∀ k,k∈l->k∈n.sD)->ua p l=(zp l).any p:=by
   intro l;induction l with
   |nil=>intro _;rfl
   |cons k l o =>
    intro j;simp only[ua,zp,List.any_append];rw[o fun x r=>j x (qW _ r),UN p m k (zW1 (ym (j k (zd ..))))]
  exact this n.sD fun k t=>t
end YG
namespace YH
open YF P1 P2 Y1 Y6 Y9 Y14 YX YZ YB YC YE YG Q6
section
variable {b:Bool}{es:List (tG×Bool)}{mu:Mu}{ts:TS}
structure InM (ts:TS) (es:List (tG×Bool)) (b:Bool) (mu:Mu):Prop where
 r:mu[0]?=some (.arr [aI 0,aS ⟨#[]⟩,aI 0,.lst true [],aI 0])
 t:mu[2]?=some (.mp (eSet es))
 x:mu[3]?=some (.arr (cIn ts 2 ⟨0,0⟩))
 p:mu[4]?=some (.arr [.ptr 3 0])
 c:mu[5]?=some (.arr [aB b])
theorem InM.len(h:InM ts es b mu):5<mu.length:=(qg.1 h.c).1
theorem InM.push(h:InM ts es b mu)(l):InM ts es b (mu++l):=by
 have g:=h.len;exact⟨by rw[zGa];exact h.r,by rw[zGa];exact h.t,by rw[zGa];exact h.x,by rw[zGa];exact h.p,by rw[zGa];exact h.c⟩
theorem InM.setT{g}(h:InM ts es b mu):InM ts g b (mu.set 2 (.mp (eSet g))):=by
 have i:=h.len;exact⟨by rw[zGl];exact h.r,qI zOm,by rw[zGl];exact h.x,by rw[zGl];exact h.p,by rw[zGl];exact h.c⟩
theorem InM.setC{b'}(h:InM ts es b mu):InM ts es b' (mu.set 5 (.arr [aB b'])):=by
 have g:=h.len;exact⟨by rw[zGl];exact h.r,by rw[zGl];exact h.t,by rw[zGl];exact h.x,by rw[zGl];exact h.p,qI zOm⟩
theorem qn1(mu):Rd mu eN0 (eNd nd0) := .agg _ _ rfl fun k x y g i=>by
 match k with
 | 0=>simp[nd0,cNd]at g i;subst g;subst i;exact .zsc _
 | 1=>simp[nd0,cNd]at g i;subst g;subst i;exact .zsc _
 | 2=>simp[nd0,cNd]at g i;subst g;subst i;exact .zsc _
 | 3=>simp[nd0,cNd,cNds]at g i;subst g;subst i;exact .wk _ true [] (.hf _ (HF.lst fun r j=>absurd j qF))
 | 4=>simp[nd0,cNd]at g i;subst g;subst i;exact .zsc _
 |k+5=>simp at g
theorem Yz(mu d):Rd mu (.tup [eN0,aI d]) (.tup [eNd nd0,aI d]) := .tup _ _ rfl fun k x y g i=>by
 match k with
 | 0=>grind [qn1]
 | 1=>simp at g i;subst g;subst i;exact .zsc _
 |k+2=>simp at g
theorem qn2(ts)(h:okTS ts)(hb:∀ p,p∈ts.sT->WfN p.body/\yK ts p.body)(n)(hw:WfN n)(ai:(yr ts [] n).1=0->yK ts n)(hF:qk ts (yO ts n)<=200000):qd qb 36 [eTS ts,eNd n] (.tup [eNd (yg ts n).1,aI (yg ts n).2]):=by
 generalize j:yg ts n=R;unfold yg at j;refine qSQ call36 func36 rfl { mt:=[25] } ?_;simp[go_sem];have a6:∀ p,p∈ts.sT->WfN p.body:=fun p hp=>(hb p hp).1
 refine fR (qkU ts h a6 n hw [] ⟨zSp,zSp⟩) (.zk (zl ts) (.cons (WK.lst fun r hr=>absurd hr qF) (.zk (qJ n) .nil))) ?_;by_cases o:(yr ts [] n).1=0
 case neg =>
  rw[if_pos o]at j;subst j;simp[go_sem,o];refine fD [0,1,2,4,3] [(0,0,[]),(1,0,[]),(2,0,[]),(4,0,[]),(3,1,[2])] zKr zKr zSi ?_;simp_all[go_sem,Yz]
 case pos =>
  rw[if_neg (zUs o)]at j;simp[go_sem,o];have aj:∀(v:List Nd)(k:Nd)(C:Mu),InM ts (putN [] v) (v.any fun n=>decide (n.op=47)) C->qy qb 75 (eNd k :: [.ptr 4 0,.ptr 5 0]) C fun e m=>e = .ret (.tup [])/\InM ts (putN [] (v++[k])) ((v++[k]).any fun n=>decide (n.op=47)) m:=fun v k C g=>by
   refine(qnB ts ⟨0,0⟩ 2 _ _ k g.p g.x g.c g.t).monoR ?_;rintro e m ⟨rfl,rfl⟩;refine⟨rfl,?_⟩;rw[List.any_append];simp only[putN,vy,List.foldl_cons,List.foldl_nil,List.any_cons,List.any_nil,Bool.or_false];exact g.setT.setC
  refine fQ (Ku (caps:=[.ptr 4 0,.ptr 5 0]) (fun v C=>InM ts (putN [] v) (v.any fun n=>decide (n.op=47)) C) (fun v C l h=>h.push l) aj (szN n) n (qo _) hw.small [] _ ⟨rfl,rfl,rfl,rfl,rfl⟩) ?_ (by grind);rintro r m ⟨e,g⟩;cases e;rw[vg,<-UN _ (szN n) n (qo _)]at g;have au:=g.len;have a8:∀ c,(m.set 0 c)[0]?=some c:=fun c=>qI zOm
  cases J:anyN (fun n=>decide (n.op=47)) n with
  |false =>
   rw[J]at g j;rw[if_pos rfl]at j;subst j;simp[go_sem,g.c,g.r,a8];exact .hf _ (HF.tup fun c o=>by simp at o;rcases o with rfl|rfl;exact qJ n;exact HF.sc _)
  |true =>
   rw[J]at g j;rw[if_neg zSp]at j;have av:=h.np;simp[go_sem,g.c];refine kT ts.sT.length (fun k U=>U.tm 3 = .ip (cNd n)/\U.tm 4 = .ptr 0 0/\U.tm 7 = .ptr 4 0/\U.tm 33=lPd ts.sT/\U.tm 34=aI ts.sT.length/\U.tm 35=aI k/\InM ts ((ts.sT.take k).foldl (fun I p=>putN I (preN p.body)) (putN [] (preN n))) true U.mu) ?_ ?_
   .simp [go_sem, *]
   .rintro k U hk ⟨e3,e4,e7,a9,a2,a3,hM⟩
    by_cases ak:k=ts.sT.length
    .subst ak
     simp[go_sem,e3,e7,a2,a3];rw[qO]at hM;have hM:InM ts (yO ts n) true U.mu:=hM;have aw:=hM.len;have a0:InM ts (yO ts n) true (U.mu++[Cell.arr [aI 0,aS ⟨#[]⟩,aI 0,.lst true [],aI 0]]++[.dead]):=(hM.push _).push _;have aa:=qnV ts h hb (yO ts n) hF (KH ts _) n hw (ai o) (mu:=U.mu++[Cell.arr [aI 0,aS ⟨#[]⟩,aI 0,.lst true [],aI 0]]++[.dead]) (ob:=U.mu.length) a0.p a0.x a0.t zSp;have al:=j;clear j;generalize hQ:outI ts (yO ts n) n=Q at *
     refine fQ (gK aa ?_) ?_ ?_
     .grind
     .rintro r m ⟨P,c,⟨l,rfl⟩,a4⟩
      have ab:U.mu.length+2<=P.length/\∀ i,i<U.mu.length+2->i≠3->i≠U.mu.length->P[i]?=(U.mu++[Cell.arr [aI 0,aS ⟨#[]⟩,aI 0,.lst true [],aI 0]]++[.dead])[i]?:=by
       grind
      have ad:∀(c:Cell)(l:List Cell),(P.set (U.mu.length+1) c++l)[0]?=some (.arr [aI 0,aS ⟨#[]⟩,aI 0,.lst true [],aI 0]):=fun c l=>by
       rw[qG zSo,zGl,ab.2 0 zOm zOm zOm];exact a0.r
      have T:∀(c c2:Cell)(l:List Cell),((P.set (U.mu.length+1) c++l).set 0 c2)[0]?=some c2:=fun c c2 l=>qI zSo
      have ae:∀(c c':Cell)(l:List Cell),(P.set (U.mu.length+1) c++(l++[c']))[P.length+l.length]?=some c':=fun c c' l=>by
       simp
      have a5:∀(c c' c2:Cell)(l:List Cell),((P.set (U.mu.length+1) c++(l++[c'])).set 0 c2)[P.length+l.length]?=some c':=fun c c' c2 l=>by
       grind
      rcases a4 with ⟨r',j,e⟩|⟨er,p,j,e⟩
      .cases Q with
       |error d=>grind
       |ok n' =>
        cases e;have an:∀(c:Cell)(l:List Cell),(P.set (U.mu.length+1) c++l)[U.mu.length]?=some (.arr (cNd n')):=fun c l=>by
         grind
        simp[go_sem,e4,an,ad,T];subst al;exact .hf _ (HF.tup fun c o=>by simp at o;rcases o with rfl|rfl;exact qJ _;exact HF.sc _)
      .cases Q with
       |ok n'=>grind
       |error d =>
        have af:=qbF hQ;have e1:er=d.1:=by grind
        subst e1;cases e;simp[go_sem,af];have n0:=ad c (l++[Cell.arr [aI d.1,aI p]]);have n1:=ae c (Cell.arr [aI d.1,aI p]) l;have n2:=fun c2=>a5 c (Cell.arr [aI d.1,aI p]) c2 l
        have n3:=fun c2=>T c c2 (l++[Cell.arr [aI d.1,aI p]])
        rw[af]at n0 n1 n2 n3;generalize P.set (U.mu.length+1) c++(l++[Cell.arr [aI 2,aI p]])=N at *
        generalize P.length+l.length=b at *
        refine fD [0,1,2,4,3] [(0,0,[]),(1,0,[]),(2,0,[]),(4,0,[]),(3,1,[2])] zKr zKr zSi ?_
        all_goals
         simp[go_sem,e4,n0,n1,n2,n3]
         grind [Yz]
     simp
    .have a1:k<ts.sT.length:=by omega
     have w1:=zWk k;have ag:=Qw ts.sT[k];simp[go_sem,e7,a9,a2,a3,a1,ag];have ao:ts.sT[k]∈ts.sT:=qn a1;generalize aq:(ts.sT.take k).foldl (fun I p=>putN I (preN p.body)) (putN [] (preN n))=E0 at *
     have ah:∀(v:List Nd)(x:Nd)(C:Mu),InM ts (putN E0 v) true C->qy qb 76 (eNd x :: [.ptr 4 0]) C fun e m=>e = .ret (.tup [])/\InM ts (putN E0 (v++[x])) true m:=fun v x C g=>by
      refine(qnC ts ⟨0,0⟩ 2 _ x g.p g.x g.t).monoR ?_;rintro e m ⟨rfl,rfl⟩;refine⟨rfl,?_⟩;simp only[putN,vy,List.foldl_cons,List.foldl_nil];exact g.setT
     refine fQ (Ku (caps:=[.ptr 4 0]) (fun v C=>InM ts (putN E0 v) true C) (fun v C l h=>h.push l) ah (szN ts.sT[k].body) ts.sT[k].body (qo _) (a6 _ ao).small [] _ (hM.push _)) ?_ (by rintro r m ⟨e,_⟩;cases e);rintro r m ⟨e,ar⟩;cases e;simp[go_sem,a3,w1];refine⟨a1,aK ?_⟩;refine⟨zS1 e3,zS1 e4,zS1 e7,zS1 a9,zS1 a2,zSi,?_⟩;rw[List.take_add_one,qw a1,vy,aq];simpa[go_sem] using ar
end
end YH
end Go.Proofs.YtfednihcpihlgaaGreatDoor
namespace Go.EvW
open Go Go.Ev Go.RowKit Go.ChangeShapes Go.WideShapes
section
variable {H J:Type}{c:J->List AV}{fs:List (j1×Nat)}{cs:List j3}{N:Nat}{P:qf}{e t:j1}{w:j2}
def CR(w:j2)(xs:List AV)(cs:List j3):Prop:=
 cs.length=xs.length/\∀(k:Nat) x,xs[k]?=some x->VRel ⟨(·<w.heap.size),[]⟩ w.heap x (cs.getD k wg)
theorem CR.nil(w):CR w [] []:=⟨rfl,zSp⟩
theorem CR.one{x v}(h:VRel ⟨(·<w.heap.size),[]⟩ w.heap x v):CR w [x] [v]:=⟨rfl,fun k y g=>by
 grind⟩
theorem CR.app{xs ys ds}(h:CR w xs cs)(k:CR w ys ds):CR w (xs++ys) (cs++ds):=by
 refine⟨by simp[h.1,k.1],fun i x g=>?_⟩;by_cases j:i<xs.length
 .rw [qG j]at g
  have:=h.2 i x g;rw[zC]at this⊢;rw[qG (by rw[h.1];exact j)];exact this
 .rw [zE zOm]at g
  have:=k.2 _ x g;rw[zC]at this⊢;rw[zE (by rw[h.1];omega),h.1];exact this
def jH(P:qf)(t:j1)(d:DataW H):Prop:=(d.weights P t).all (·<=reachBytes)=true
theorem jH.all:∀{ds:List (DataW H)},(DataW.weightsAll P e ds).all (·<=reachBytes)=true->∀(i:Nat) d,ds[i]?=some d->jH P e d
 | [],_,i,d,g=>by simp at g
 |x :: r,h,i,d,g=>by
  simp only[DataW.weightsAll,List.all_append,qD]at h;cases i with
  |zero=>simp at g;subst g;exact h.1
  |succ i=>exact jH.all h.2 i d (zUs g)
theorem cW:∀{ts}{ds:List (DataW H)},(DataW.weightsEach P ts ds).all (·<=reachBytes)=true->∀(i:Nat) t d,ts[i]?=some t->ds[i]?=some d->jH P t d
 | [],ds,_,i,t,d,g,_=>by simp at g
 |t0 :: ts,[],_,i,t,d,_,j=>by simp at j
 |t0 :: ts,x :: r,h,i,t,d,g,j=>by
  simp only[DataW.weightsEach,List.all_append,qD]at h;cases i with
  |zero=>simp at g j;subst g;subst j;exact h.1
  |succ i=>exact cW h.2 i t d (zUs g) (zUs j)
def ShT(P:qf)(n:Nat)(t:j1){J:Type}(c:J->List AV)(ok:J->Prop):Prop:=
 ∀(H:Type)(g:j1×j3->H)(w:j2)(i:List j3)(x:DataW H×List MemPlace),
  DataW.trod g P w 0 (fun _=>true) true n t i=some x->jH P t x.1->∃ a,ok a/\CR w (c a) i
def ShU(P:qf)(N:Nat)(t:j1){J:Type}(c:J->List AV)(ok:J->Prop):Prop:=∀ n,n<N->ShT P n t c ok
theorem ShU.le{M ok}(h:ShU P N t c ok)(g:M<=N):ShU P M t c ok:=fun n i=>h n zOm
theorem ShU.map{i ok c' g}(h:ShU P N t c ok)(f:J->i)(C:∀ a,c' (f a)=c a)(I:∀ a,ok a->g (f a)):ShU P N t c' g:=by
 intro n l H j w o x p r;obtain⟨a,R,T⟩:=h n l H j w o x p r
 grind
theorem ShU.int{k}(g:P.underlying t=some (.int k))(N):ShU P N t (fun n:Int=>[.sc (.int k n)]) (fun n=>(Lit.int k n).wf=true):=by
 intro n o H j w p x h _;obtain⟨i,rfl,_,l⟩:=DataW.trod_int g h;exact⟨i,l,.one (.sc _ rfl)⟩
theorem ShU.bool(g:P.underlying t=some .bool)(N):ShU P N t (fun b:Bool=>[.sc (.bool b)]) (fun _=>True):=by
 intro n l H j w o x h _;obtain⟨i,rfl,_⟩:=DataW.trod_bool g h;exact⟨i,trivial,.one (.sc _ rfl)⟩
theorem ShU.string(j:P.underlying t=some .string)(N):ShU P N t (fun s:tG=>[.sc (.string s)]) (fun s=>s.size<=140737488351232):=by
 intro n p H l w r x h g;obtain⟨i,rfl,rfl,C⟩:=DataW.trod_string j h;refine⟨i,?_,.one (.sc _ rfl)⟩;unfold jH at g;simp only[DataW.weights,List.all_cons,List.all_nil,Bool.and_true,decide_eq_true_eq]at g;have e:i.data.toList.length=i.size:=Array.length_toList;have o:i.size<=reachBytes:=by rw[<-e];exact g
 exact zt o (vR rfl)
theorem qbH{a n}(h:w.cells? 0 a n=some cs):cs.length=n/\∀ i,i<n->w.cell? (a.add i)=some (cs.getD i wg):=by
 unfold World.cells? at h;rw[if_pos (Nat.zero_le _)]at h;have g:=mapM_some_length h;refine⟨zUs g,fun i j=>?_⟩;have:=mapM_some_get h i i (zP1 j)
 grind
theorem qbI{a v}(h:w.cell? a=some v):∃ arr e g,w.heap[a.block]?=some (.cells arr e g)/\a.spot=none/\arr[a.off]?=some v:=by
 unfold World.cell? at h;split at h
 .simp_all
 .cases h
theorem qn3[Inhabited J]{p:Nat->J->Prop}(n)(h:∀ i,i<n->∃ a,p i a):∃ l:List J,l.length=n/\∀(i) a,l[i]?=some a->p i a:=by
 induction n with
 |zero=>simp
 |succ n g =>
  obtain⟨l,j,o⟩:=g (fun i r=>h i zOm);obtain⟨a,t⟩:=h n zOm;refine⟨l++[a],zP1 j,fun i b C=>?_⟩
  grind
theorem ShU.slice[Inhabited J]{c ok}(ht:P.underlying t=some (.slice e))(he:ShU P N e c ok)(ak:∀ a,ok a->(c a).length=P.cellsOf e)(p:0<P.cellsOf e)(a5:Nat.blt 0 (P.bytesOf e)=true) :
  ShU P (N+1) t (fun l:List J=>[.lst false (l.map c)]) (fun l=>l.length<=140737488351232/\∀ a,a∈l->ok a):=by
 intro n hn H a6 w cs x h hw;rcases DataW.trod_slice ht h with ⟨rfl,_⟩|⟨a,len,cap,g,C,m,rfl,rfl,rfl,_,hl,hc,al,T,_,_⟩
 .exact ⟨[],⟨zSp,zSp⟩,.one (.nil _)⟩
 .have a7:(DataW.weightsAll P e (g.map (·.1))).all (·<=reachBytes)=true:=by
   simp_all[jH,DataW.weights,List.all_cons,List.all_append,qD]
  have an:len<=140737488351232:=by
   unfold jH at hw;simp only[DataW.weights,ht,List.all_cons,List.all_append,qD,decide_eq_true_eq]at hw;have I:=hw.1;have a8:1<=P.bytesOf e:=vR a5;have h2:((g.map (·.1)).length+(C.map (·.1)).length)*1<=((g.map (·.1)).length+(C.map (·.1)).length)*P.bytesOf e:=Nat.mul_le_mul_left _ a8;simp only[zK]at I h2;have h3:reachBytes<=140737488351232:=vR rfl;omega
  have key:∀ i,i<len->∃ b,ok b/\∃ o,w.cells? 0 (a.add (i*P.cellsOf e)) (P.cellsOf e)=some o/\CR w (c b) o:=by
   intro i hi;have I:=T i hi;have U:i<g.length:=zOm;rw[qw U]at I;obtain⟨o,h2,h3⟩:=Option.bind_eq_some_iff.1 I;obtain⟨b,h4,h5⟩:=he m zOm H a6 w o _ h3 (jH.all a7 i _ (by rw[zf,qw U];rfl))
   grind
  obtain⟨l,a9,a0⟩:=qn3 len key;refine⟨l,⟨zOm,fun b hb=>?_⟩,.one ?_⟩
  .grind [List.mem_iff_getElem?]
  .have aa:(l.map c).length=len:=by simp[a9]
   rw[<-aa];cases Nat.eq_zero_or_pos len with
   |inl h0 =>
    have:l=[]:=wD zOm;subst this;exact .emp _ a cap zSp
   |inr hp =>
    have ab:0<l.length:=zOm;obtain⟨_,ao,I,_⟩:=a0 0 l[0] (qw ab);obtain⟨ad,R⟩:=qbH I;have ae:=R 0 p;obtain⟨arr,el,fr,hb,hs,_⟩:=qbI ae;have ai:∀ k:Nat,a.spot=none->(a.add k).spot=none/\(a.add k).off=a.off+k:=by
     grind [Addr.add]
    have a1:∀(b:Addr)(j:Nat),(b.add j).block=b.block:=by
     grind [Addr.add]
    have e0:((a.add (0*P.cellsOf e)).add 0).block=a.block/\((a.add (0*P.cellsOf e)).add 0).spot=a.spot:=by
     grind [Addr.add]
    rw[e0.1]at hb;rw[e0.2]at hs;have hz:yE (P.cellsOf e) (l.map c):=fun r hr=>by
     obtain⟨b,aq,rfl⟩:=qi.1 hr
     grind [List.mem_iff_getElem?]
    have ar:=yD hz;refine .lst false (l.map c) (P.cellsOf e) a cap arr el fr (fun k=>arr.getD (a.off+k) wg) hb hs zOm zSp (Array.getElem?_eq_some_iff.1 hb).1 hz ?_ ?_
    all_goals
     intro k x hk;have au:k<(l.map c).length*P.cellsOf e:=by grind
     have hq:k / P.cellsOf e<l.length:=by
      simp_all[zK,Nat.div_lt_of_lt_mul,Nat.mul_comm]
     have hr:k % P.cellsOf e<P.cellsOf e:=Nat.mod_lt _ p;have av:k / P.cellsOf e*P.cellsOf e+k % P.cellsOf e=k:=by
      grind [Nat.div_add_mod,Nat.mul_comm]
     obtain⟨_,o,I,h2⟩:=a0 (k / P.cellsOf e) _ (qw hq);obtain⟨ad,R⟩:=qbH I;have af:=R _ hr;have a2:(l.map c)[k / P.cellsOf e]?=some (c l[k / P.cellsOf e]):=by rw[zf,qw hq];rfl
     have hx:(c l[k / P.cellsOf e])[k % P.cellsOf e]?=some x:=by
      have ag:k % P.cellsOf e<(c l[k / P.cellsOf e]).length:=by grind
      have:=Wk hz a2 (qw ag)
      grind
     obtain⟨aj,aw,ax,a3,ay,a4⟩:=qbI af;have e1:((a.add (k / P.cellsOf e*P.cellsOf e)).add (k % P.cellsOf e)).block=a.block:=by rw[a1,a1]
     have e2:((a.add (k / P.cellsOf e*P.cellsOf e)).add (k % P.cellsOf e)).off=a.off+k:=by
      grind [Addr.add]
     rw[e1,hb]at a3;cases a3;rw[e2]at a4;have ah:arr.getD (a.off+k) wg=o.getD (k % P.cellsOf e) wg:=by
      rw[qV,a4];rfl
    .grind
    .show VRel _ _ x (arr.getD (a.off+k) wg)
     rw[ah];exact h2.2 _ x hx
def UO(P:qf)(t:j1):Option (List (j1×Nat)):=match P.underlying t with|some (.struct g)=>some (g.toList.map fun f=>(f.type,f.offset))|_=>none
inductive ShF (P:qf) (N:Nat):Nat->List (j1×Nat)->{α:Type}->(α->List AV)->(α->Prop)->Prop where
 |nil (o:Nat):ShF P N o [] (fun _:Unit=>[]) (fun _=>True)
 |cons {o:Nat} {t:j1} {fs:List (j1×Nat)} {α β:Type} {c:α->List AV} {ok:α->Prop} {c':β->List AV} {ok':β->Prop} (h:ShU P N t c ok) (k:ShF P N (o+P.cellsOf t) fs c' ok') :
   ShF P N o ((t,o) :: fs) (fun x:α×β=>c x.1++c' x.2) (fun x=>ok x.1/\ok' x.2)
def Va(P:qf)(fs:List (j1×Nat)):Nat:=(fs.map fun f=>P.cellsOf f.1).foldr (·+·) 0
theorem ShF.read{n o ok}(h:ShF P N o fs c ok)(C:n<N){H}{enc:j1×j3->H}{w}(cs:List j3)
  (p:cs.length=o+Va P fs) (r:∀(i:Nat) f,fs[i]?=some f->∃ x,DataW.trod enc P w 0 (fun _=>true) true n f.1 ((cs.drop f.2).take (P.cellsOf f.1))=some x/\jH P f.1 x.1) :
  ∃ a,ok a/\CR w (c a) (cs.drop o):=by
 induction h with
 |nil o =>
  refine⟨(),trivial,?_⟩;rw[List.drop_of_length_le (by grind [Va])];exact .nil w
 | @cons o t fs J β c ok c' I h k R =>
  obtain⟨x,j,l⟩:=r 0 _ rfl;obtain⟨a,T,U⟩:=h n C H enc w _ x j l;have a0:Va P ((t,o) :: fs)=P.cellsOf t+Va P fs:=rfl;obtain⟨b,hb,hs⟩:=R zOm (fun i g hg=>r (i+1) g hg);refine⟨(a,b),⟨T,hb⟩,?_⟩;have e:cs.drop o=(cs.drop o).take (P.cellsOf t)++cs.drop (o+P.cellsOf t):=by
   rw[<-List.drop_drop,vS]
  rw[e];exact U.app hs
theorem ShU.struct{ok}(j:UO P t=some fs)(hf:ShF P N 0 fs c ok)(T:P.cellsOf t=Va P fs):ShU P (N+1) t c ok:=by
 intro n hn H l w U x h hw;unfold UO at j;split at j
 .rename_i gs hu
  simp only[qr]at j;subst j;obtain⟨p,m,rfl,rfl,hl,a0,hg⟩:=DataW.trod_struct hu h;have C:(DataW.weightsEach P (gs.toList.map (·.type)) (p.map (·.1))).all (·<=reachBytes)=true:=by
   grind [jH,DataW.weights]
  obtain⟨a,ha,hr⟩:=hf.read (n:=m) zOm (w:=w) (enc:=l) U zOm (fun i f I=>by
   simp only[zf,jK]at I;obtain⟨g,o,rfl⟩:=I;have R:=hg i g (zUs o);have r:i<p.length:=by
    grind
   rw[qw r]at R;exact⟨_,R,cW C i _ _ (by rw[zf,o];rfl) (by rw[zf,qw r];rfl)⟩)
  grind
 .cases j
theorem cX{c:J->AV}{ok}(h:∀ N,ShU P N t (fun a=>[c a]) ok)(g:∀ w r b v,Value.okWide P w r b t v->v.cells=#[v])
  {H} {enc} {w} {r} {b} {v} {d:DataW H} {ps} (i:Value.okWide P w r b t v) (l:DataW.Trod enc P w 0 (fun _=>true) true t v d ps) (o:jH P t d) :
  ∃ a,ok a/\VRel ⟨(·<w.heap.size),[]⟩ w.heap (c a) v:=by
 obtain⟨n,p⟩:=l;obtain⟨a,C,j⟩:=h (n+1) n zOm H enc w _ _ p o;rw[g w r b v i]at j;have:=j.2 0 (c a) rfl
 grind
theorem cY{ok fs}(h:∀ N,ShU P N t c ok)(j:P.underlying t=some (.struct fs))
  {H} {enc} {w} {r} {b} {v} {d:DataW H} {ps} (g:Value.okWide P w r b t v) (l:DataW.Trod enc P w 0 (fun _=>true) true t v d ps) (o:jH P t d) :
  ∃ a,ok a/\VRel ⟨(·<w.heap.size),[]⟩ w.heap (.agg (c a)) v:=by
 obtain⟨n,p⟩:=l;obtain⟨a,C,i⟩:=h (n+1) n zOm H enc w _ _ p o;unfold Value.okWide at g;rw[j]at g;obtain⟨R,rfl,_,_⟩:=g;refine⟨a,C,.agg _ _ (by simpa[Value.cells] using i.1) (fun k x I=>?_)⟩;have:=i.2 k x I
 grind [Value.cells,qV]
theorem qn4(g:P.underlying t=some (.slice e))(w r b v)(h:Value.okWide P w r b t v):v.cells=#[v]:=by
 unfold Value.okWide at h;rw[g]at h;simp only[Cell.okWide,g]at h;cases v<;>simp_all[Value.cells,Cell.ok]
end
end Go.EvW
namespace Go.EvW
open Go Go.Ev Go.RowKit Go.ChangeShapes Go.WideShapes
section
variable {J:Type}{c:J->List AV}{ts:List j1}{P:qf}{t:j1}{w:j2}
def Qc(P:qf)(t:j1){J:Type}(c:J->AV)(ok:J->Prop):Prop:=
 ∀(H:Type)(g:j1×j3->H)(w:j2)(r:Reach)(b:Nat)(v:j3)(d:DataW H)(i:List MemPlace),Value.okWide P w r b t v->DataW.Trod g P w 0 (fun _=>true) true t v d i->jH P t d ->
  ∃ a,ok a/\VRel ⟨(·<w.heap.size),[]⟩ w.heap (c a) v
theorem Qc.struct{ok}(g:(UO P t).isSome=true)(h:∀ N,ShU P N t c ok):Qc P t (fun a => .agg (c a)) ok:=by
 intro H i w r b v d C j l o;unfold UO at g;split at g
 .rename_i I p;exact cY h p j l o
 grind
theorem Qc.slice{e c}{ok:J->Prop}(g:P.underlying t=some (.slice e))(h:∀ N,ShU P N t (fun a=>[c a]) ok):Qc P t c ok:=
 fun H i w r b v d p j l o=>cX h (qn4 g) j l o
inductive ArgF (P:qf):List j1->{α:Type}->(α->List AV)->(α->Prop)->Prop where
 |nil:ArgF P [] (fun _:Unit=>[]) (fun _=>True)
 |cons {t:j1} {ts:List j1} {α β:Type} {c:α->AV} {ok:α->Prop} {c':β->List AV} {ok':β->Prop} (h:Qc P t c ok) (k:ArgF P ts c' ok'):ArgF P (t :: ts) (fun x:α×β=>c x.1 :: c' x.2) (fun x=>ok x.1/\ok' x.2)
theorem ArgF.read{ok}(h:ArgF P ts c ok){H enc w r b} :
  ∀{g}{ds:List (DataW H)}{ps},DataW.TrodAll enc P w 0 (fun _=>true) true ts g ds ps->(∀(j:Nat) t v,ts[j]?=some t->g[j]?=some v->Value.okWide P w r b t v)->(DataW.weightsEach P ts ds).all (·<=reachBytes)=true ->
  ∃ a,ok a/\ds.length=ts.length/\g.length=(c a).length/\∀(k) x,(c a)[k]?=some x->VRel ⟨(·<w.heap.size),[]⟩ w.heap x (g.getD k wg):=by
 induction h with
 |nil =>
  intro g ds ps i _ _;obtain⟨rfl,rfl,rfl⟩:=trodAll_nil i;simp
 | @cons t ts J β c ok c' R h k T =>
  intro g ds ps i I l;obtain⟨v,U,d,a0,p,q,rfl,rfl,rfl,h1,h2⟩:=trodAll_cons i;simp only[DataW.weightsEach,List.all_append,qD]at l;obtain⟨a,ha,hr⟩:=h H enc w r b v d p (I 0 t v rfl rfl) h1 l.1;obtain⟨a',o,C,hl,hg⟩:=T h2 (fun j t v=>I (j+1) t v) l.2;refine⟨(a,a'),⟨ha,o⟩,zP1 C,zP1 hl,fun k x hx=>?_⟩
  grind
theorem qbJ(l:laidOutB P=true){H enc W o r}:∀{ts i}{ds:List (DataW H)}{ps},
  (∀ t,t∈ts->P.readableRec t=true/\t<P.types.size)->DataW.TrodAll enc P W 0 (fun _=>true) true ts i ds ps->(∀ p∈ps,W.sameAt o p)->(∀ p∈ps,r p.block=true)->DataW.TrodAll enc P o 0 r true ts i ds ps
 | [],i,ds,ps,_,h,_,_=>by
  obtain⟨rfl,rfl,rfl⟩:=trodAll_nil h;exact trodAll_mk0
 |t :: ts,i,ds,ps,C,h,I,J=>by
  obtain⟨v,R,d,T,p,q,rfl,rfl,rfl,g1,U⟩:=trodAll_cons h;have j:=C t zSp;exact trodAll_cons_mk (WideElems.Trod_stays l j.1 j.2 g1 (fun x g=>I x (zP1 g)) (fun x g=>J x (zP1 g)))
   (qbJ l (fun t j=>C t (zP1 j)) U (fun x g=>I x (zP1 g)) (fun x g=>J x (zP1 g)))
theorem qn5{f fn}{s:ChangeSpec}{tb ok}(hp:fn.params=ts.toArray)(hF:ArgF P ts c ok)(hv:s.vars=[])
  (T:∀ H ds,ds.length=ts.length->s.fn H ds={ results:=[.lit (.bool true)],args:=ds }) (hr:fn.resultTypes=#[tb]) (U:P.underlying tb=some .bool)
  (hl:laidOutB P=true) (a7:(ts.all fun t=>P.readableRec t&&decide (t<P.types.size))=true) (hS:∀ a,ok a->qd P f (c a) (aB true))
  (H) (C) (W) (base) (args) (ds gs:List (DataW H)) (g)
  (i:∀(j:Nat) t v,fn.params[j]?=some t->args[j]?=some v->Value.okWide P W .any base t v) (hW:DataW.Whole C P fn.params.toList s.vars false W args.toList ds gs g) (a8:(DataW.weightsEach P fn.params.toList ds).all (·<=reachBytes)=true) (hT:Zn (·<W.heap.size) W.heap) :
  Calls P f args W fun e W'=>∃ v,e = .returned v/\s.post C P fn false true false false W args v W':=by
 have a0:=hW;obtain⟨p,q,R,hV,I,a9,_⟩:=hW;rw[hv]at hV;obtain⟨hg,hq⟩:=trodVars_none hV;subst hg;subst hq;rw[zF]at I;subst I;rw[hp]at R i;obtain⟨a,ha,a1,a2,aa⟩:=hF.read (r := .any) (b:=base) R (fun j t v h1 h2=>i j t v (zUs h1) (zUs h2)) (by grind);have a3:∀ x,x∈g->x.block<W.heap.size:=fun x l=>R.lt x l
 obtain⟨_,o⟩:=hS a ha;refine(o (·<W.heap.size) W args (Sim.empty (fun _ h=>h) hT) ⟨zUs a2,fun k x hk=>?_⟩).mono fun e W' ⟨a6,v,he,_,_,hb,a4⟩=>?_
 .simp_all
 .have a5:v = .bool true:=by cases a4;rfl
  subst a5;refine⟨_,he,ds,[],g,[],g,[],a0,?_,?_,?_,World.keptBut_mono (fun x l=>⟨l,.inr (.inl l)⟩) (hb.frame (·∈g)),fun h=>by cases h⟩
  all_goals try rw[zF]
  all_goals try rw[T H ds a1]
  .rw [hr]
   exact trodAll_cons_mk (p':=[]) (shut_bool U true) trodAll_mk0
  .rw [hp]
   refine qbJ hl (fun t ht=>?_) R (fun x l=>hb.same (a3 x l)) (fun x l=>by grind)
   grind
  .rw [hv];rfl
theorem ShF.cons'{N o o' fs i ok c' g}(j:o+P.cellsOf t=o')(h:ShU P N t c ok)(k:ShF P N o' fs c' g) :
  ShF P N o ((t,o) :: fs) (fun x:J×i=>c x.1++c' x.2) (fun x=>ok x.1/\g x.2):=by
 subst j;exact .cons h k
theorem qbK:∀{laid ps},DataW.LaidVars P w laid ps->∀ x,x∈laid->∃ g t cs fuel p,P.globalNamed x.1=some g/\(P.globals[g]?).map (·.type)=some t/\w.var? P x.1=some cs/\DataW.trod (fun _=>()) P w 0 (fun _=>true) false fuel t cs.toList=some (x.2,p)
 | [],_,_,x,i=>by simp at i
 | (n,d) :: r,ps,h,x,i=>by
  obtain⟨g,t,cs,fuel,p,q,l,o,C,I,j,_⟩:=h;rcases qt.1 i with rfl|i
  .grind
  .exact qbK j x i
theorem qn6{e n fuel k}(T:P.underlying t=some (.array n e))(U:P.underlying e=some (.int k))(hc:P.cellsOf e=1)(r:P.cellsOf t=n){cs}{ns:List Int}{p}
  (h:DataW.trod (fun _=>()) P w 0 (fun _=>true) false fuel t cs=some (.agg (ns.map fun i => .lit (.int k i)),p)):cs=ns.map fun i => .int k i:=by
 obtain⟨C,m,_,g,R,hn,j⟩:=DataW.trod_array T h;simp only[Prod.mk.injEq,DataW.agg.injEq]at g;have g:=g.1;have I:ns.length=n:=by have:=congrArg List.length g;simp at this;omega
 rw[r]at R;rw[hc]at j;apply List.ext_getElem
 .simp [R,I]
 .intro i h1 h2
  have J:=j i zOm;rw[Nat.mul_one]at J;have l:i<C.length:=zOm;rw[qw l]at J;obtain⟨z,e1,e2,_⟩:=DataW.trod_int U J;have h4:(C[i]).1=DataW.lit (.int k z):=by rw[e2]
  have o:(ns.map fun i=>(DataW.lit (.int k i):DataW Unit))[i]?=(C.map (·.1))[i]?:=by rw[g]
  rw[zf,zf,qw l,qw zOm]at o;simp only[Option.map_some,qr]at o;rw[h4]at o;simp only[DataW.lit.injEq,Lit.int.injEq,true_and]at o;have h6:(cs.drop i).take 1=[cs[i]]:=by rw[zm h1];rfl
  grind
theorem qn7{name g cs}(j:P.globalNamed name=some g)(h:w.var? P name=some cs):∃ e i,w.heap[g]?=some (.cells cs e i):=by
 grind [World.var?]
end
end Go.EvW
namespace Go.Proofs.YtfednihcpihlgaaGreatDoor
open Go Go.Ev Go.Proofs Tryz
namespace DT
open Go.EvW Y1 P1 YF
theorem unInt:qb.underlying 3=some (.int .i64):=by kernel_rfl
theorem qbL:qb.underlying 4=some .bool:=by kernel_rfl
theorem qn8:qb.underlying 9=some .string:=by kernel_rfl
theorem qn9:qb.underlying 28=some (.slice 3):=by kernel_rfl
theorem qoA:qb.underlying 22=some (.slice 65):=by kernel_rfl
theorem qoB:qb.underlying 23=some (.slice 67):=by kernel_rfl
theorem qoC:qb.underlying 33=some (.slice 35):=by kernel_rfl
theorem qoD:qb.underlying 120=some (.slice 176):=by kernel_rfl
theorem qoE:qb.underlying 24=some (.slice 122):=by kernel_rfl
theorem qoF:qb.underlying 25=some (.slice 92):=by kernel_rfl
abbrev okI(n:Int):Prop := -9223372036854775808<=n/\n<=9223372036854775807
abbrev okS(s:tG):Prop:=s.size<=140737488351232
instance:Inhabited Nd:=⟨.mk 0 ⟨#[]⟩ 0 [] 0⟩
instance:Inhabited Pd:=⟨⟨⟨#[]⟩,[],default⟩⟩
instance:Inhabited Fld:=⟨⟨⟨#[]⟩,[],false⟩⟩
theorem ZR(N):ShU qb N 3 (fun n:Int=>[aI n]) okI:=
 (ShU.int unInt N).map (fun n=>n) (fun _=>rfl) (fun n h=>by
  grind [Lit.wf,IntKind.min,IntKind.max,IntKind.signed,IntKind.bits])
theorem KI(N):ShU qb N 4 (fun b:Bool=>[aB b]) (fun _=>True):=ShU.bool qbL N
theorem YI(N):ShU qb N 9 (fun s:tG=>[aS s]) okS:=ShU.string qn8 N
theorem KJ(N):ShU qb N 28 (fun xs:List Int=>[lI xs]) (fun l=>l.length<=140737488351232/\∀ x,x∈l->okI x):=
 ((ShU.slice qn9 (ZR N) (fun _ _=>zKr) (Nat.lt_of_lt_of_eq Nat.zero_lt_one zKr) zKr).le zOm).map (fun l=>l) (fun _=>rfl) fun _ h=>h
theorem qoG(N):ShU qb N 67 vG (fun f=>f.sS.length<=140737488351232/\∀ x,x∈f.sS->okI x):=
 ((ShU.struct (fs:=[(9,0),(28,1),(4,2)]) zKr (.cons' (o':=1) zKr (YI N) (.cons' (o':=2) zKr (KJ N) (.cons' (o':=3) zKr (KI N) (.nil 3)))) zKr).map
  (fun x=>(⟨x.1,x.2.1,x.2.2.1⟩:Fld)) (fun _=>rfl) (fun x h=>h.2.1)).le zOm
theorem qoH(N):ShU qb N 65 Qo (fun s=>okS s.1):=
 ((ShU.struct (fs:=[(9,0),(4,1)]) zKr (.cons' (o':=1) zKr (YI N) (.cons' (o':=2) zKr (KI N) (.nil 2))) zKr).map
  (fun x=>((x.1,x.2.1):tG×Bool)) (fun _=>rfl) (fun x h=>h.1)).le zOm
theorem UP:∀ N,ShU qb N 35 cNd (fun _=>True)
 | 0=>fun n i=>absurd i zOm
 | N+1 =>
  have ks:ShU qb N 33 (fun l:List Nd=>[.lst false (l.map cNd)]) (fun _=>True):=((ShU.slice qoC (UP N) (fun a _=>(Ya a).trans zKr) (Nat.lt_of_lt_of_eq (show 0<5 by omega) zKr) zKr).le zOm).map (fun l=>l) (fun _=>rfl) fun _ _=>trivial
  ((ShU.struct (fs:=[(3,0),(9,1),(3,2),(33,3),(3,4)]) zKr
   (.cons' (o':=1) zKr (ZR N) (.cons' (o':=2) zKr (YI N) (.cons' (o':=3) zKr (ZR N) (.cons' (o':=4) zKr ks (.cons' (o':=5) zKr (ZR N) (.nil 5)))))) zKr)).map
   (fun x=>Nd.mk x.1 x.2.1 x.2.2.1 x.2.2.2.1 x.2.2.2.2.1) (fun x=>by rw[yx];rfl) fun _ _=>trivial
theorem qoI(N):ShU qb N 176 cPm (fun p=>okI p.2):=
 ((ShU.struct (fs:=[(9,0),(3,1)]) zKr (.cons' (o':=1) zKr (YI N) (.cons' (o':=2) zKr (ZR N) (.nil 2))) zKr).map
  (fun x=>((x.1,x.2.1):tG×Int)) (fun _=>rfl) (fun x h=>h.2.1)).le zOm
theorem qoJ(N):ShU qb N 120 (fun l:List (tG×Int)=>[lPm l]) (fun l=>l.length<=140737488351232):=
 ((ShU.slice qoD (qoI N) (fun _ _=>zKr) (Nat.lt_of_lt_of_eq (show 0<2 by omega) zKr) zKr).le zOm).map (fun l=>l) (fun _=>rfl) fun _ h=>h.1
theorem qoK(N):ShU qb N 122 cPd (fun _=>True):=
 ((ShU.struct (fs:=[(9,0),(120,1),(35,2)]) zKr (.cons' (o':=1) zKr (YI N) (.cons' (o':=2) zKr (qoJ N) (.cons' (o':=7) zKr (UP N) (.nil 7)))) zKr).map
  (fun x=>(⟨x.1,x.2.1,x.2.2.1⟩:Pd)) (fun x=>by simp[cPd]) fun _ _=>trivial).le zOm
theorem qoL(N):ShU qb N 92 cFa (fun _=>True):=
 ((ShU.struct (fs:=[(9,0),(35,1)]) zKr (.cons' (o':=1) zKr (YI N) (.cons' (o':=6) zKr (UP N) (.nil 6))) zKr).map
  (fun x=>((x.1,x.2.1):tG×Nd)) (fun x=>by simp[cFa]) fun _ _=>trivial).le zOm
structure okTA (ts:TS):Prop where
 so:∀ x,x∈ts.sS->okS x.1
 nso:ts.sS.length<=140737488351232
 nf:ts.sA.length<=140737488351232
 fl:∀ f,f∈ts.sA->f.sS.length<=140737488351232/\∀ x,x∈f.sS->okI x
theorem qoM(N):ShU qb N 27 cTS okTA:=by
 have s1:=(ShU.slice qoA (qoH N) (fun _ _=>zKr) (Nat.lt_of_lt_of_eq (show 0<2 by omega) zKr) zKr).le (M:=N) zOm;have i:=(ShU.slice qoB (qoG N) (fun _ _=>zKr) (Nat.lt_of_lt_of_eq (show 0<3 by omega) zKr) zKr).le (M:=N) zOm;have j:=(ShU.slice qoE (qoK N) (fun a h=>(Qw a).1.trans zKr) (Nat.lt_of_lt_of_eq (show 0<7 by omega) zKr) zKr).le (M:=N) zOm;have l:=(ShU.slice qoF (qoL N) (fun a h=>(gY a).1.trans zKr) (Nat.lt_of_lt_of_eq (show 0<6 by omega) zKr) zKr).le (M:=N) zOm;have U:=ShU.struct (t:=27) (fs:=[(22,0),(23,1),(24,2),(25,3)]) zKr (.cons' (o':=1) zKr s1 (.cons' (o':=2) zKr i (.cons' (o':=3) zKr j (.cons' (o':=4) zKr l (.nil 4))))) zKr;exact(U.map (fun x=>(⟨x.1,x.2.1,x.2.2.1,x.2.2.2.1⟩:TS)) (fun _=>rfl) fun x h=>⟨h.1.2,h.1.1,h.2.1.1,h.2.1.2⟩).le zOm
theorem unU8:qb.underlying 5=some (.int .u8):=by kernel_rfl
theorem shU8(N):ShU qb N 5 (fun n:Int=>[.sc (.int .u8 n)]) (fun n=>0<=n/\n<=255):=
 (ShU.int unU8 N).map (fun n=>n) (fun _=>rfl) (fun n h=>by
  simp[Lit.wf,IntKind.min,IntKind.max,IntKind.signed,IntKind.bits]at h;exact h)
end DT
namespace QA
def bA:tG:=⟨#[65]⟩
def bf:tG:=⟨#[102]⟩
def bp:tG:=⟨#[112]⟩
end QA
namespace QB
open Y1 Q6 Q9 QA
def nC:Nd := .mk 45 bf 0 [qaX bA 2,.mk 47 bp 0 [qaX bf 5] 3] 1
theorem h47:anyN (fun n=>decide (n.op=47)) nC=true:=by decide +kernel
def WkR:List (List AV)->List (List AV)->Prop
 | [],[]=>True
 |x :: p,y :: i=>WKs x y/\WkR p i
 |_,_=>False
theorem qbM:∀{xs ys g i},WKs xs ys->WKs g i->WKs (xs++g) (ys++i)
 | [],[],_,_,_,j=>j
 |_ :: _,_ :: _,_,_,⟨h,t⟩,j=>⟨h,qbM t j⟩
 | [],_ :: _,_,_,h,_=>h.elim
 |_ :: _,[],_,_,h,_=>h.elim
theorem qbN:∀{xs ys},WkR xs ys->ys.length=xs.length/\(∀(k:Nat) x y,xs[k]?=some x->ys[k]?=some y->x.length=y.length)/\WKs xs.flatten ys.flatten
 | [],[],_=>⟨rfl,fun k x y h=>by simp at h,trivial⟩
 |x :: xs,y :: ys,⟨h,t⟩=>by
  obtain⟨j,l,o⟩:=qbN t;refine⟨zP1 j,fun k a b g i=>?_,by rw[wE,wE];exact qbM h o⟩;cases k with
  |zero=>simp at g i;subst g;subst i;exact h.get.1.symm
  |succ k=>exact l k a b (zUs g) (zUs i)
 | [],_ :: _,h=>h.elim
 |_ :: _,[],h=>h.elim
theorem YJ{full xs ys}(h:WkR xs ys):WK (.lst full xs) (.lst false ys):=by
 obtain⟨o,I,J⟩:=qbN h;have P:=pr o I;have R:=J.get.2;intro G T v r;cases r with
 |nil=>cases ys with
  |nil=>exact .nil _
  |cons=>simp at o
 |emp _ a cap U=>cases ys with
  |nil=>exact .emp _ a cap zSp
  |cons=>simp at o
 |lst _ _ g a cap cs e fr rd hb hs hl U hi p hr hv =>
  rw[<-o];have i:∀(k:Nat) y,ys.flatten[k]?=some y->∃ x,xs.flatten[k]?=some x:=by
   intro k y l;have t:k<ys.flatten.length:=(qg.1 l).1;exact⟨xs.flatten[k]' zOm,by simp only[qw (show k<xs.flatten.length by omega)]⟩
  refine .lst false ys g a cap cs e fr rd hb hs zOm zSp hi ?_ ?_ ?_
  .intro r C
   obtain⟨k,t⟩:=List.mem_iff_getElem?.1 C;have a0:k<ys.length:=(qg.1 t).1;have j:xs[k]?=some (xs[k]' zOm):=by simp[show k<xs.length by omega]
   rw[<-I k _ r j t];exact p _ (qU j)
  .intro k y l
   obtain⟨x,j⟩:=i k y l;exact hr k x j
  .intro k y l
   obtain⟨x,j⟩:=i k y l;exact R k x y j l G T _ (hv k x j)
theorem qbO(op nm n){ks l}(p)(h:WK ks (lNd l)):WKs [aI op,aS nm,aI n,ks,aI p] (cNd (.mk op nm n l p)):=by
 rw[yx];exact⟨.hf (HF.sc _),.hf (HF.sc _),.hf (HF.sc _),h,.hf (HF.sc _),trivial⟩
theorem qoN(op nm n){ks l}(p)(h:WK ks (lNd l)):WK (.agg [aI op,aS nm,aI n,ks,aI p]) (eNd (.mk op nm n l p)):=WK.aggs (qbO op nm n p h)
end QB
namespace PB
open P1 P2 Y1 Y2 Y6 Y9 Y12 YW QB
section
variable {b':Kd}
def Sub(a b:Kd):Prop:=a.ar=b.ar/\∀ t,t∈a.ts->t∈b.ts
theorem qoO{n m a g b b'}(i:∀ t,t∈a->t∈g)(j:∀ t,t∈b->t∈b'):∀ t,t∈uy n m a b->t∈uy n m g b':=fun t l=>by
 grind [Qt]
theorem qoP{n m a g b b'}(i:∀ t,t∈a->t∈g)(j:∀ t,t∈b->t∈b'):∀ t,t∈wS n m a b->t∈wS n m g b':=fun t l=>by
 grind [Jw]
theorem UQ{a j b}(g:Sub a j)(i:Sub b b'):Sub (zH a b) (zH j b'):=by
 refine⟨by simp only[zH];rw[g.1,i.1],fun t l=>?_⟩;simp only[zH]at l⊢;rw[<-g.1,<-i.1];exact qoO g.2 i.2 t l
theorem qoQ{a j b}(g:Sub a j)(i:Sub b b'):Sub (uz a b) (uz j b'):=by
 refine⟨by simp only[uz];rw[g.1,i.1],fun t l=>?_⟩;simp only[uz]at l⊢;rw[<-g.1,<-i.1];exact qoP g.2 i.2 t l
theorem Zi{a b}{t:Tp}:t∈(kSum a b).ts↔t∈a.ts\/t∈b.ts:=by
 show t∈uni (uni [] a.ts) b.ts↔_;rw[vH,vH];simp
theorem qbP{a g b}(i:Sub a g)(j:∀ t,t∈b.ts->t∈b'.ts):Sub (kSum a b) (kSum g b'):=
 ⟨i.1,fun t l=>Zi.2 ((Zi.1 l).imp (i.2 t) (j t))⟩
theorem Sub.refl(a):Sub a a:=⟨rfl,fun _ h=>h⟩
theorem Sub.trans{a b c}(h:Sub a b)(k:Sub b c):Sub a c:=⟨h.1.trans k.1,fun t g=>k.2 t (h.2 t g)⟩
theorem KL(a b):Sub a (kSum a b):=⟨rfl,fun t g=>Zi.2 (.inl g)⟩
theorem qoR{a g}(i:Sub a g):Sub (kTr a) (kTr g):=⟨rfl,fun t j=>by
 obtain⟨x,l,e⟩:=Uw.1 j;exact Uw.2 ⟨x,i.2 x l,e⟩⟩
def UR(k:Kd):Prop:=∀ t,t∈(zH k k).ts->t∈k.ts
theorem KM:∀ f n a,Sub a (cloN f n a)
 | 0,n,a => .refl a
 |f+1,n,a=>by
  unfold cloN;split
  .exact (KL a _).trans (KM f _ _)
  .exact .refl a
theorem KN{S}(i:UR S):∀ f n a,Sub a S->Sub (cloN f n a) S
 | 0,n,a,h=>h
 |f+1,n,a,h=>by
  unfold cloN;split
  .refine KN i f _ _ ⟨h.1,fun t g=>?_⟩
   rcases Zi.1 g with g|g
   .exact h.2 t g
   .exact i t ((UQ h h).2 t g)
  .exact h
theorem KO{ns}(o:ns<=4):∀ f n a,okKd ns a->a.ar=2->70<=f+n->(n=0\/∃ p,okKd ns p/\p.ar=2/\n=p.ts.length/\a=kSum p (zH p p))->UR (cloN f n a)
 | 0,n,a,g,r,hf,C=>by
  rcases C with rfl|⟨p,J,_,rfl,_⟩
  .omega
  grind [aH]
 |f+1,n,a,g,r,hf,C=>by
  unfold cloN;split
  .rename_i T
   have U:okKd ns (zH a a):=JU g g zOm zOm;refine KO o f _ _ (JS g U (by grind [zH])) r zOm (.inr ⟨a,g,r,rfl,rfl⟩)
  .rename_i a0
   rcases C with rfl|⟨p,J,a1,rfl,rfl⟩
   .have:a.ts=[]:=wD zOm
    intro t i;obtain⟨x,y,⟨I,_⟩,_⟩:=Qt.1 i
    grind
   .have j:∀ t,t∈(kSum p (zH p p)).ts->t∈p.ts:=by
     have a2:(kSum p (zH p p)).ts.Nodup:=g.nd;have a3:∀ t,t∈p.ts->t∈(kSum p (zH p p)).ts:=(KL p _).2;intro t i;by_cases P:t∈p.ts
     .exact P
     .exfalso
      have l:(t :: p.ts).Nodup:=jx.2 ⟨P,J.nd⟩;have:=jL l (l₂:=(kSum p (zH p p)).ts) (fun x I=>by
       rcases qt.1 I with rfl|I
       .exact i
       grind)
      grind
    intro t i;have R:Sub (kSum p (zH p p)) p:=⟨rfl,j⟩;exact Zi.2 (.inr ((UQ R R).2 t i))
theorem qoS{ns}(g:ns<=4){a u}(h:Sub a u)(i:okKd ns u)(j:u.ar=2):Sub (kClo a) (kClo u):=
 KN (KO g 70 0 u i j zOm (.inl rfl)) 70 0 a (h.trans (KM 70 0 u))
theorem qbQ(c):∀ m n s k,szN n<=m->exam c s true n = .ok k->exam c s false n = .ok k
 | 0,n,_,_,I,_=>by obtain⟨op,nm,i,ks,p⟩:=n;simp[szN]at I
 |m+1,n,s,k,I,h=>by
  have P:∀ x,x∈n.sD->∀(s:Scp)(g:Bool)(k:Option Kd),exam c s true x = .ok k->exam c s g x = .ok k:=fun x t s g k h=>by
   cases g with
   |true=>exact h
   |false=>exact qbQ c m x s k (zW1 (ym t)) h
  have U:∀(l:List Nd),(∀ x,x∈l->x∈n.sD)->∀(s:Scp)(g:Bool)(r:List (Option Kd)),qY c s true l = .ok r->qY c s g l = .ok r:=by
   intro l;induction l with
   |nil=>intro _ s g r h;exact h
   |cons x l R =>
    grind [qY,exam,zd,qW]
  rw[y8]at h⊢;simp only[Bool.true_and,Bool.false_and,Bool.true_or,Bool.false_or,Bool.false_eq_true,if_false]at h⊢;split at h
  .cases h
  by_cases T:n.op=1
  .grind
  rw[if_neg T]at h⊢;by_cases h47:n.op=47
  .grind
  rw[if_neg h47]at h⊢;by_cases J:n.op=15\/n.op=45\/n.op=46
  .rw [if_pos J]at h⊢
   cases j:n.sD with
   |nil=>rw[j]at h;exact h
   |cons x l =>
    have o:∀ y,y∈x :: l->y∈n.sD:=fun y hy=>by grind
    rw[j]at h;simp only[yd]at h⊢;cases t:exam c s true x with
    |error e=>grind
    |ok a =>
     rw[t]at h;rw[P x (o x (zd ..)) s _ a t];cases a with
     |none=>cases h
     |some a =>
      simp only at h⊢;split at h
      .rename_i C
       rw[if_pos C]
       grind
      .cases h
  rw[if_neg J]at h⊢
  grind
section
variable {ts:TS} (ok:okTS ts) (a b d:Nd)
include ok
end
end
end PB
end Go.Proofs.YtfednihcpihlgaaGreatDoor
