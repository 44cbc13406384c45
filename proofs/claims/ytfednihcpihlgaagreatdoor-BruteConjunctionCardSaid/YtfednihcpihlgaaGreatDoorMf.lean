/-
  Own library, part 6: an abstract reading of values and a calculus over it; contracts of functions; plain lemmas.
-/
import Derived.Lib.ItoaLen
import Derived.Handed
import Derived.WideKeyArgs
import Derived.ProofKit
import Derived.OpenShut
import Derived.JoinedCond
import Derived.KernelRfl
import Derived.Test.YtfednihcpihlgaaGreatDoorMe
set_option linter.unusedVariables false
set_option linter.unusedSimpArgs false
set_option maxRecDepth 100000
open Go renaming FuncId->j1,Program->qb,TypeId->qd,World->qf,Value->qy,undef->j2
open Go.Proofs.Tryz renaming prog->qc
open List renaming getElem?_eq_some_iff->qi,mem_map->qk,getElem_mem->qq,range->qs,mem_cons->qv,getElem?_eq_getElem->qz,not_mem_nil->qI,getElem?_append_left->qJ,getElem?_set_self->qL,mem_append->qM,take_length->qR,replicate->qW,mem_singleton->qY,mem_of_getElem?->qZ,mem_cons_of_mem->za,length_append->zb,map_append->zh,mem_cons_self->zj,getElem?_map->zn,drop_eq_getElem_cons->zy,append_nil->zF,append_assoc->zJ,length_cons->zK,getElem?_append_right->zN,length_map->zW,getD_eq_getElem?_getD->z6,take_of_length_le->yg,mem_range->yh,map_cons->yi,drop_length->yA,getElem?_set_ne->yE,cons_append->yG,mem_append_left->js,nil_append->vd,nodup_cons->vy,take_succ_eq_append_getElem->vP,foldl_append->vR,take_append_drop->uc,mem_of_mem_take->ux,mem_flatMap->wP,eq_nil_of_length_eq_zero->wR,flatten_cons->wS
open Nat renaming le_refl->qo,le_trans->zG,zero_add->yb,le_of_ble_eq_true->vO
open Go.IntKind renaming i64->qp
open Option.some renaming injEq->qt
open Bool renaming and_eq_true->qF,or_eq_true->Qu
open Array renaming getD_eq_getD_getElem?->q8
open Option renaming map_eq_some_iff->jS
open List.Nodup renaming length_le_of_subset->jT
open Int renaming le_refl->vS
namespace Go.Proofs.YtfednihcpihlgaaGreatDoor
open Go Go.Ev Go.Proofs Tryz
namespace FD
open Y1 Y9 Q4 F2
theorem qm4{ks m}(h:∀ k,k∈ks->dN k<=m):dNs ks<=m:=by
 induction ks with
 |nil=>simp[dNs]
 |cons a l g =>
  simp only[dNs];have:=h a zSp;have:=g fun k i=>h k (zP1 i)
  omega
theorem qaS:∀ m n g,szN n<=m->forN n g=true->(dN n:Int)<=g
 | 0,n,g,l,_=>by
  obtain⟨op,nm,i,ks,q⟩:=n;simp only[szN,Nd.mk.sizeOf_spec]at l;omega
 |m+1,n,g,l,h=>by
  rw[J4]at h;split at h
  .cases h
  .simp only[qF]at h
   have o:=Kn h.2.2;have:dNs n.sD<=(g-1).toNat:=qm4 fun k j=>by
    have:=qaS m k (g-1) (zW1 (yn j)) (o k j);omega
   rw[qaE];omega
theorem qm5{n}(h:qH n=true):dN n<=24:=by
 simp only[qH,qF]at h;have:=qaS (szN n) n 24 (qo _) h.2;omega
theorem qaT:∀ x,(∀ a,a∈x->0<=a)->0<=sumI x:=fun x hx=>by
 induction x with
 |nil=>simp[sumI]
 |cons a x g =>
  have l:=hx a zSp;have i:=g fun b j=>hx b (zP1 j)
  simp only[sumI,List.foldr_cons]at i⊢;omega
theorem qm6:∀ l i,(∀ a,a∈l->0<=a)->i<l.length->0<=gI l i/\0<=sumI (l.take i)/\sumI (l.take i)+gI l i<=sumI l:=fun l i h g=>by
 have e:sumI l=sumI (l.take (i+1))+sumI (l.drop (i+1)):=by rw[<-nj,uc]
 rw[uI l i g]at e;rw[uH g];have p:=qaT (l.drop (i+1)) fun a j=>h a (List.mem_of_mem_drop j)
 have o:=qaT (l.take i) fun a j=>h a (ux j)
 exact⟨h _ (qq g),o,zOm⟩
end FD
namespace GF
open E1 EO EQ EW F4 GD
abbrev rP(p:Int×Int):List AV:=[aI p.1,aI p.2]
abbrev lP(ps:List (Int×Int)):AV := .lst false (ps.map rP)
theorem J8(xs:List (Int×Int)):zi 2 (xs.map rP):=fun r g=>by
 obtain⟨n,_,rfl⟩:=qk.1 g;exact⟨rfl,rfl⟩
abbrev eBd(b:Bd):AV := .agg (cBd b)
theorem KD(b):∀ c,c∈cBd b->HF c:=by
 intro c g;simp at g;rcases g with rfl|rfl|rfl|rfl
 .exact HF.sc _
 .exact zo _
 .exact HF.sc _
 .exact zo _
theorem qaU(b):HF (eBd b):=HF.agg (KD b)
theorem qm7(x):qg qc 99 [eBd x] (.fn (.func 147) [] [.ip (cBd x)]):=by
 refine qSU call99 func99 rfl ?_;refine .hf _ (HF.fn (fun c g=>by simp at g) (fun c g=>?_))
 grind [HF.ip,KD]
def wA(x:Bd):List Int:=x.up.ts.filter fun t=>!decide (t∈x.lo.ts)
theorem KE{J:Type}(p)(l:List J)(k h)(hp:p l[k]=true):(l.filter p)[((l.take k).filter p).length]?=some l[k]:=by
 have e:l=l.take k++l[k] :: l.drop (k+1):=by
  rw[<-zy h,uc]
 have g:l.filter p=(l.take k).filter p++l[k] :: (l.drop (k+1)).filter p:=by
  conv=>lhs;rw[e]
  rw[List.filter_append,List.filter_cons,if_pos hp]
 rw[g,zN (qo _)];simp
theorem KF{J:Type}(p)(l:List J)(k h):((l.take (k+1)).filter p).length=((l.take k).filter p).length+(if p l[k]=true then 1 else 0):=by
 rw[List.take_add_one,qz h,List.filter_append];cases hp:p l[k]<;>simp[hp]
theorem qm8(x)(hl:x.up.ts.length<=1000000000)(R:x.lo.ts.length<=1000000000)(hs:x.lo.ts.Pairwise (·<=·)):jd qc 147 [.ip (cBd x)] ((wA x).map fun t=>[aI t]):=by
 refine jd.of call147 fun i I Ix hS hX hY C h0=>?_
 refine qSW call147 func147 rfl {} ?_;simp[go_sem];refine tS (fun m U=>∃ k,m=x.up.ts.length-k/\k<=x.up.ts.length/\U.tm 0 = .yl i/\U.tm 1 = .ip (cBd x)/\U.tm 9=lI x.up.ts/\U.tm 10=aI x.up.ts.length/\U.tm 11=aI (k:Nat)/\I ((x.up.ts.take k).filter fun t=>!decide (t∈x.lo.ts)).length U.mu) x.up.ts.length ?_ ?_
 .exact ⟨0,zOm,zOm,zSi,zSi,zSi,zSi,zSi,zVs h0⟩
 rintro m U ⟨k,rfl,hk,T,e1,e9,o,p,P⟩;by_cases r:k<x.up.ts.length
 .simp [go_sem,e1,e9,o,p,r]
  refine pL (binU x.lo.ts x.up.ts[k] R hs) (.zk (zo _) (.zs .nil)) ?_;have g:=KF (fun t=>!decide (t∈x.lo.ts)) x.up.ts k r;by_cases l:x.up.ts[k]∈x.lo.ts
  .simp [go_sem,p,l]
   rw[if_neg (zUs l),Nat.add_zero]at g;refine Keep.loop (x.up.ts.length-(k+1)) zOm ⟨k+1,rfl,zOm,zS1 T,zS1 e1,zS1 e9,zS1 o,?_,?_⟩
   .simp [go_sem];exact zWr
   .rw [g];simpa[go_sem] using P
  .simp [go_sem,T,l]
   rw[if_pos (zUs l)]at g;have J:((wA x).map fun t=>[aI t])[((x.up.ts.take k).filter fun t=>!decide (t∈x.lo.ts)).length]?=some [aI x.up.ts[k]]:=by
    rw[zn,wA,KE _ _ k r (zUs l)];rfl
   refine qe.yield (hY _ _ _ J P) ?_;rintro b j (⟨rfl,a0⟩|⟨rfl,a1⟩)
   .simp [go_sem,p]
    refine Keep.loop (x.up.ts.length-(k+1)) zOm ⟨k+1,rfl,zOm,zS1 T,zS1 e1,zS1 e9,zS1 o,?_,?_⟩
    .simp [go_sem];exact zWr
    .rw [g];simpa[go_sem] using a0
   .simp [go_sem]
    exact .inr a1
 .have a2:k=x.up.ts.length:=by omega
  subst a2;rw[qR]at P;simp[go_sem,o,p];exact .inl P
def jj(k:Nat)(x:Bd):List (Int×Int):=(wA x).map fun t=>((k:Int),t)
def qN:List Bd->Nat->List (Int×Int)
 | [],_=>[]
 |x :: l,k=>jj k x++qN l (k+1)
theorem qaV:∀ l m k,qN (l++m) k=qN l k++qN m (k+l.length)
 | [],m,k=>by simp[qN]
 |x :: l,m,k=>by
  rw[yG,qN,qN,qaV l m (k+1),zJ];have:k+1+l.length=k+(x :: l).length:=zSo;rw[this]
theorem qaW(l:List Bd)(k h):qN (l.take (k+1)) 0=qN (l.take k) 0++jj k l[k]:=by
 rw[List.take_add_one,qz h];show qN (l.take k++[l[k]]) 0=_;rw[qaV];have:(l.take k).length=k:=zSo;rw[this,yb];simp[qN]
structure Qn (x:Bd):Prop where
 up:x.up.ts.length<=1000000
 lo:x.lo.ts.length<=1000000
 sorted:x.lo.ts.Pairwise (·<=·)
theorem J9:∀ l k,(∀ x,x∈l->Qn x)->(qN l k).length<=l.length*1000000
 | [],k,_=>by simp[qN]
 |x :: l,k,h=>by
  have i:=J9 l (k+1) (fun y g=>h y (zP1 g));have j:(jj k x).length<=1000000:=by
   rw[jj,zW];exact zG (List.length_filter_le _ _) (h x zSp).up
  simp only[qN,zb,zK];omega
theorem cN{mu av xs}(h:Own mu 2 av (xs.map rP)):Rd mu av (lP xs):=
 h.rd (J8 xs).ok fun r i c g=>by
  obtain⟨n,_,rfl⟩:=qk.1 i;simp at g;rcases g with rfl|rfl<;>exact HF.sc _
theorem qaX(l)(hl:l.length<=1000)(hb:∀ x,x∈l->Qn x):qg qc 52 [lBd l] (lP (qN l 0)):=by
 refine qSU call52 func52 rfl ?_;refine tS (fun m U=>∃ k I C,m=l.length-k/\k<=l.length/\U.tm 3 = .ptr 0 0/\U.tm 7=lBd l/\U.tm 8=aI l.length/\U.tm 9=aI (k:Nat)/\U.mu = .arr [I] :: C/\Own U.mu 2 I ((qN (l.take k) 0).map rP)/\qn I≠some 0) l.length ?_ ?_
 .refine ⟨0,.lst true [],[],zOm,zOm,zSi,zSi,zSi,zSi,zSi,?_,by simp[qn]⟩
  simp[go_sem,qN];exact .inl rfl
 rintro m U ⟨k,I,C,rfl,hk,e3,e7,e8,e9,hm,ho,aa⟩;by_cases T:k<l.length
 .have hx:=hb _ (qq T)
  have af:(qN (l.take (k+1)) 0).length<=1000000000:=by
   grind [J9,ux,Nat.mul_le_mul_right]
  have a0:=qaW l k T;rw[hm]at ho;have ab:qn I≠some (C.length+1):=fun h=>by have:=Own.lt ho h;simp at this
  simp[go_sem,e7,e8,e9,hm,T];refine fR (qm7 l[k]) (.zk (qaU _) .nil) ?_;refine tA (qm8 l[k] (zW1 hx.up) (zW1 hx.lo) hx.sorted) (fun j M=>∃ I o,M = .arr [I] :: o/\M[C.length+1]?=some (.arr [aI k])/\Own M 2 I ((qN (l.take k) 0++(jj k l[k]).take j).map rP)/\qn I≠some 0/\qn I≠some (C.length+1)) (fun _ _=>False) ?_ ?_ ?_ ?_ ?_ ?_
  .refine ⟨I,_,by simp only[qB,yG];rfl,zSi,?_,aa,ab⟩
   have:=Own.push ho [Cell.arr [aI k],Cell.arr (cBd l[k]),.dead];simp_all[go_sem]
  .rintro j M ⟨I,o,rfl,h1,h2,h3,h4⟩
   exact⟨I,o++[.dead],rfl,by grind,Own.push h2 _,h3,h4⟩
  .grind
  .rintro j x M hj ⟨I,o,rfl,h1,h2,h3,h4⟩
   rw[zn,jS]at hj;obtain⟨t,ht,rfl⟩:=hj;have ag:j<(wA l[k]).length:=(qi.1 ht).1;have ah:(jj k l[k]).take (j+1)=(jj k l[k]).take j++[((k:Int),t)]:=by
    rw[List.take_add_one];have:(jj k l[k])[j]?=some ((k:Int),t):=by rw[jj,zn,ht];rfl
    rw[this];rfl
   have ai:(qN (l.take k) 0++(jj k l[k]).take j).length<=1000000000:=by
    grind
   refine⟨rfl,?_⟩;have ad:=(qi.1 h1).1;have a3:=h1;simp at a3;simp[go_sem,e3,a3];refine qw.ownB (e:=113) (sz:=2) (bt:=16) (zv := .agg [aI 0,aI 0]) (xs:=(qN (l.take k) 0++(jj k l[k]).take j).map rP) (ys:=[rP ((k:Int),t)]) zSi zSi zSi rfl rfl zOm zOm h2 (by simp[qC]) (J8 _) (J8 [((k:Int),t)]) (by grind) ?_;intro P a4 a1 a5 aj ak;have ae:=a5 0 zSp h3;have a6:=a5 (C.length+1) ad h4;rw[h1]at a6;obtain⟨J,rfl⟩:∃ J,a4 = .arr [I] :: J:=by
    cases a4 with
    |nil=>simp at ae
    |cons c r=>grind
   have R:qn P≠some 0:=fun h=>by grind
   have a7:qn P≠some (C.length+1):=fun h=>by grind
   have a8:=Own.set a1 (i:=0) (.arr [P]) R;have a9:(qN (l.take k) 0++(jj k l[k]).take j).map rP++[rP ((k:Int),t)]=(qN (l.take k) 0++(jj k l[k]).take (j+1)).map rP:=by
    grind
   rw[a9]at a8;simp[go_sem,e3,Own.one a1,Own.cells a1];exact tK ⟨P,J,rfl,zUs a6,zUs a8,R,a7⟩
  .rintro M ⟨I,o,rfl,h1,h2,h3,h4⟩
   have a2:(jj k l[k]).take ((wA l[k]).map fun t=>[aI t]).length=jj k l[k]:=by
    simp_all[zW,yg,jj,qo]
   rw[a2,<-a0]at h2;simp[go_sem,e9];refine Keep.loop (l.length-(k+1)) zOm ⟨k+1,I,o,rfl,zOm,zS1 e3,zS1 e7,zS1 e8,?_,zSi,zVs h2,h3⟩;simp[go_sem];grind [z7]
  grind
 .have al:k=l.length:=by omega
  simp_all[go_sem,qR,cN]
end GF
namespace GH
open P1 YF E3 EO EQ ER EW F1 F4 GF GG
abbrev lMd(l:List Md):AV := .lst false (l.map cMd)
theorem Va(xs:List Md):zi 4 (xs.map cMd):=fun r g=>by
 obtain⟨n,_,rfl⟩:=qk.1 g;exact⟨rfl,rfl⟩
theorem KG:∀ r c x,x∈subL c r->∀ y,y∈x->y∈c\/y∈r
 | [],c,x,h,y,g=>by grind [subL,qY]
 |z :: r,c,x,h,y,g=>by
  rw[subL,qM]at h;rcases h with h|h
  .rcases KG r c x h y g with h|h
   .exact .inl h
   .exact .inr (zP1 h)
  .rcases KG r _ x h y g with h|h
   .rcases qM.1 h with h|h
    .exact .inl h
    .rw [qY]at h;subst h;exact .inr zSp
   .exact .inr (zP1 h)
def vJ(inst:Nat->List (List AV)->Md)(cs:List (List AV))(k:Nat):List Md:=(qs k).flatMap fun s=>(subL [] cs).map (inst s)
theorem qaY(inst cs k):vJ inst cs (k+1)=vJ inst cs k++(subL [] cs).map (inst k):=by
 unfold vJ;rw[List.range_succ,List.flatMap_append];simp
theorem KH(inst cs):∀ k,(vJ inst cs k).length=k*(subL [] cs).length
 | 0=>by simp[vJ]
 |k+1=>by rw[qaY,zb,KH inst cs k,zW,Nat.succ_mul]
theorem cG{mu av xs}(h:Own mu 4 av (xs.map cMd)):Rd mu av (lMd xs):=
 h.rd (Va xs).ok fun r i c g=>by
  obtain⟨n,_,rfl⟩:=qk.1 i;simp at g;rcases g with rfl|rfl|rfl|rfl<;>first|exact HF.sc _|exact zo _|exact XT _
theorem qm9(ts)(sc:Sc)(bs cs inst)(S:Nat)(hS:sc.sN=S)(ax:S<=4)(hr:Qm cs)(hl:cs.length<=14)(aq:S*(subL [] cs).length<=1000000)
  (ay:S*2 ^ cs.length<=16384)
  (R:qg qc 31 [eTS ts,eSc sc] (aB true)) (J:qg qc 32 [eTS ts,eSc sc,lBd bs] (aB true)) (T:qg qc 33 [eTS ts,eSc sc,lBd bs] (.lst false cs))
  (hi:∀ k,k<S->∀ c,c∈subL [] cs->qg qc 35 [eTS ts,eSc sc,lBd bs,aI (k:Nat),.lst false c] (eMd (inst k c))):qg qc 9 [eTS ts,eSc sc,lBd bs] (.tup [lMd (vJ inst cs S),aI 0]):=by
 refine qSU call9 func9 rfl ?_;refine fR R (.zk (zq _) (.zk (zH _) .nil)) ?_;refine fR J (.zk (zq _) (.zk (zH _) (.zk (yH _) .nil))) ?_;refine pL T (.zk (zq _) (.zk (zH _) (.zk (yH _) .nil))) ?_;have ag:¬(14:Int)<cs.length:=zOm;have n0:¬(cs.length:Int)<0:=zOm;have nm:min cs.length 64=cs.length:=zOm;have ar:(S:Int)*2 ^ cs.length<=16384:=by grind
 have au:(0:Int)<=(S:Int)*2 ^ cs.length:=by exact_mod_cast Nat.zero_le _
 have ah:qp.wrap ((S:Int)*2 ^ cs.length)=(S:Int)*2 ^ cs.length:=zWr;have ai:¬(16384:Int)<(S:Int)*2 ^ cs.length:=zOm;simp[go_sem,ag,hS,n0,nm,ah,ai];refine tS (fun m U=>∃ k t o,m=S-k/\k<=S/\U.tm 3 = .ip (cTS ts)/\U.tm 4 = .ip [lI sc.sC,aI sc.sN]/\U.tm 5 = .ip [lBd bs]/\U.tm 8 = .lst false cs/\U.tm 9 = .ptr 0 0/\U.tm 39=aI S/\U.tm 40=aI (k:Nat)/\U.mu = .arr [t] :: o/\Own U.mu 4 t ((vJ inst cs k).map cMd)/\qn t≠some 0) S ?_ ?_
 .refine ⟨0,.lst true [],[],zOm,zOm,zSi,zS1 hS,zSi,zSi,zSi,zSi,zSi,zSi,?_,by simp[qn]⟩
  simp[go_sem,vJ];exact .inl rfl
 rintro m U ⟨k,t,o,rfl,hk,e3,e4,e5,e8,e9,a0,a1,hm,ho,aj⟩;by_cases a6:k<S
 .have az:=KH inst cs (k+1)
  have aw:=Nat.mul_le_mul_right (subL [] cs).length (show k+1<=S by omega);have a2:=qaY inst cs k;rw[hm]at ho;have ak:qn t≠some (o.length+1):=fun h=>by have:=Own.lt ho h;simp at this
  simp[go_sem,e8,a0,a1,hm,a6];refine fR (qmM cs hr) (.zk (HF.lst fun r a3 x hx=>(hr r a3).2.2 x hx) .nil) ?_;refine tA (qmL cs hr zOm) (fun j M=>∃ t l,M = .arr [t] :: l/\M[o.length+1]?=some (.arr [aI k])/\Own M 4 t ((vJ inst cs k++((subL [] cs).map (inst k)).take j).map cMd)/\qn t≠some 0/\qn t≠some (o.length+1)) (fun _ _=>False) ?_ ?_ ?_ ?_ ?_ ?_
  .refine ⟨t,_,by simp only[qB,yG];rfl,zSi,?_,aj,ak⟩
   have:=Own.push ho [Cell.arr [aI k],.dead];simp_all[go_sem]
  .rintro j M ⟨t,l,rfl,R,J,T,h4⟩
   exact⟨t,l++[.dead],rfl,by grind,Own.push J _,T,h4⟩
  .grind
  .rintro j x M hj ⟨t,l,rfl,R,J,T,h4⟩
   rw[zn,jS]at hj;obtain⟨c,hc,rfl⟩:=hj;have b0:j<(subL [] cs).length:=(qi.1 hc).1;have a7:c∈subL [] cs:=qZ hc;have b1:((subL [] cs).map (inst k)).take (j+1)=((subL [] cs).map (inst k)).take j++[inst k c]:=by
    rw[List.take_add_one];have:((subL [] cs).map (inst k))[j]?=some (inst k c):=by rw[zn,hc];rfl
    rw[this];rfl
   refine⟨rfl,?_⟩;have al:=(qi.1 R).1;have a8:=R;simp at a8;simp[go_sem];refine cL zKr ?_;simp[go_sem,e3,e4,e5,e9,a8];refine pL (hi k a6 c a7) (.zk (zq _) (.zk (zH _) (.zk (yH _) (.zs (.zk (HF.lst ?_) .nil))))) ?_
   .exact fun r a3 x hx=>(hr r (by rcases KG cs [] c a7 r a3 with h|h;exact absurd h zSp;exact h)).2.2 x hx
   simp[go_sem];refine qw.ownB (e:=43) (sz:=4) (bt:=64) (zv := .agg [.lst true [],aI 0,.lst true [],aI 0]) (xs:=vJ inst cs k++((subL [] cs).map (inst k)).take j |>.map cMd) (ys:=[cMd (inst k c)]) zSi zSi zSi rfl rfl zOm zOm J (by simp[qC]) (Va _) (Va [inst k c]) ?_ ?_
   .grind
   intro I a9 a4 aa b2 b3;have an:=aa 0 zSp T;have ab:=aa (o.length+1) al h4;rw[R]at ab;obtain⟨C,rfl⟩:∃ C,a9 = .arr [t] :: C:=by
    cases a9 with
    |nil=>simp at an
    |cons c r=>grind
   have P:qn I≠some 0:=fun h=>by grind
   have ad:qn I≠some (o.length+1):=fun h=>by grind
   have ae:=Own.set a4 (i:=0) (.arr [I]) P;have af:(vJ inst cs k++((subL [] cs).map (inst k)).take j).map cMd++[cMd (inst k c)]=(vJ inst cs k++((subL [] cs).map (inst k)).take (j+1)).map cMd:=by
    grind
   rw[af]at ae;simp[go_sem,e9,Own.one a4,Own.cells a4];exact tK ⟨I,C,rfl,zUs ab,zUs ae,P,ad⟩
  .rintro M ⟨t,l,rfl,R,J,T,h4⟩
   have a5:((subL [] cs).map (inst k)).take ((subL [] cs).map fun c=>[AV.lst false c]).length=(subL [] cs).map (inst k):=by
    rw[zW,yg zSp]
   rw[a5,<-a2]at J;simp[go_sem,a1];refine Keep.loop (S-(k+1)) zOm ⟨k+1,t,l,rfl,zOm,zS1 e3,zS1 e4,zS1 e5,zS1 e8,zS1 e9,zS1 a0,?_,zSi,zVs J,T⟩;simp[go_sem];grind [z7]
  grind
 .have ao:k=S:=by omega
  subst ao;rw[hm]at ho;simp[go_sem,e9,a0,a1,hm];refine .tup _ _ rfl fun j x y hx hy=>?_
  match j with
  | 0=>grind [cG]
  | 1=>simp at hx hy;subst hx;subst hy;exact .zsc _
  |j+2=>simp at hx
end GH
namespace GU
open YF P1 E1 E3 EO EQ F4 GF GH GR GS
abbrev Ch:=Int×Int×Int
abbrev rC(c:Ch):List AV:=[aI c.1,aI c.2.1,aI c.2.2]
theorem YI(l:List Ch):zi 3 (l.map rC):=fun r g=>by
 obtain⟨n,_,rfl⟩:=qk.1 g;exact⟨rfl,rfl⟩
abbrev lCh(l:List Ch):AV := .lst false (l.map rC)
def chA(g:List Bool)(s:Nat)(i:List (Int×Int)):List Ch:=(i.filter fun p=>decide (s=0)||g.getD p.1.toNat true).map fun p=>((s:Int),p.1,p.2)
def chs(g:List Bool)(i:List (Int×Int))(k:Nat):List Ch:=(qs k).flatMap fun s=>chA g s i
theorem KI(g i k):chs g i (k+1)=chs g i k++chA g k i:=by
 rw[chs,List.range_succ,List.flatMap_append];simp[chs]
theorem qaZ(i s)(g:List (Int×Int))(j h):chA i s (g.take (j+1))=chA i s (g.take j)++(if (decide (s=0)||i.getD g[j].1.toNat true)=true then [((s:Int),g[j].1,g[j].2)] else []):=by
 rw[vP h,chA,List.filter_append,zh];by_cases l:(decide (s=0)||i.getD g[j].1.toNat true)=true
 .rw [if_pos l,show [g[j]].filter (fun p=>decide (s=0)||i.getD p.1.toNat true)=[g[j]] from List.filter_cons_of_pos (p:=fun p:Int×Int=>decide (s=0)||i.getD p.1.toNat true) l];rfl
 .rw [if_neg l,show [g[j]].filter (fun p=>decide (s=0)||i.getD p.1.toNat true)=[] from List.filter_cons_of_neg (p:=fun p:Int×Int=>decide (s=0)||i.getD p.1.toNat true) l];rfl
theorem KJ(i s g):(chA i s g).length<=g.length:=by
 rw[chA,zW];grind
theorem KL(i g):∀ k,(chs i g k).length<=k*g.length
 | 0=>by simp[chs]
 |k+1=>by
  rw[KI,zb,Nat.succ_mul];have:=KL i g k;have:=KJ i k g;omega
theorem UU:∀ g k,∀ p,p∈qN g k->(k:Int)<=p.1/\p.1<(k+g.length:Nat)
 | [],k,p,h=>by simp[qN]at h
 |b :: g,k,p,h=>by
  simp only[qN,qM]at h;rcases h with h|h
  .simp only[jj,qk]at h
   obtain⟨t,_,rfl⟩:=h;simp;omega
  .have:=UU g (k+1) p h
   simp only[zK];omega
theorem qa0(ts)(sc:Sc)(o)(N:Nat)(hS:sc.sN=N)(hN:N<=4)(hl:o.length<=1000)(hb:∀ x,x∈o->Qn x)(af:o.length<=ts.sA.length)(a8:(qN o 0).length<=100000) :
  qg qc 33 [eTS ts,eSc sc,lBd o] (lCh (chs (vsT ts) (qN o 0) N)):=by
 have P:=qaX o hl hb;have ag:=J9 o 0 hb;have a0:=UU o 0;generalize hF:qN o 0=F at *
 refine qSV call33 func33 rfl ?_;simp[go_sem,hS];refine aA N (fun k U=>U.tm 2=lBd o/\U.tm 3 = .ip (cTS ts)/\U.tm 12=aI N/\U.tm 13=aI k/\Own U.mu 3 (U.tm 7) ((chs (vsT ts) F k).map rC)) ?_ ?_
 .exact ⟨zSi,zSi,zSi,zSi,.inl (by simp[go_sem,chs])⟩
 rintro k U hk ⟨e2,e3,i,l,ho⟩;by_cases a1:k<N
 .have w1:=zWk k
  have ah:=KL (vsT ts) F k;have ad:k*F.length<=4*100000:=Nat.mul_le_mul zOm a8;simp[go_sem,e2,i,l,a1];refine fR P (.zk (yH _) .nil) ?_;refine aA F.length (fun j st2=>st2.tm 2=lBd o/\st2.tm 3 = .ip (cTS ts)/\st2.tm 12=aI N/\st2.tm 13=aI k/\st2.tm 8=aI k/\st2.tm 17=lP F/\st2.tm 18=aI F.length/\st2.tm 19=aI j/\Own st2.mu 3 (st2.tm 7) ((chs (vsT ts) F k++chA (vsT ts) k (F.take j)).map rC)) ?_ ?_
  .simp_all [go_sem,chA]
  clear e2 e3 i l;rintro j st2 hj ⟨e2,e3,i,l,e8,a2,R,a3,t⟩;by_cases C:j<F.length
  .have w2:=zWk j
   have hm:=a0 _ (qq C);obtain⟨f,hf⟩:=Int.eq_ofNat_of_zero_le (show 0<=F[j].1 by omega);have a4:f<ts.sA.length:=zOm;have a9:0<=F[j].1:=zOm;have aa:F[j].1.toNat=f:=zOm;have a5:F[j].1<ts.sA.length:=zOm;have ab:(vsT ts).getD F[j].1.toNat true=ts.sA[f].var:=by grind
   have ai:=KJ (vsT ts) k (F.take j);have aj:=List.length_take_le j F;have hs:=qaZ (vsT ts) k F j C;rw[ab]at hs;have ae:∀(K:AV->Mu->Prop)(c:Cell),(∀ a6 a7,Own a7 3 a6 ((chs (vsT ts) F k++(chA (vsT ts) k (F.take j)++[((k:Int),F[j].1,F[j].2)])).map rC)->K a6 a7)->qw qc (st2.mu++[c]) #[86,86] (st2.tm 7) (.lst true [[aI k,aI F[j].1,aI F[j].2]]) K:=fun K c hK=>by
    refine qw.ownB (e:=136) (sz:=3) (bt:=24) (zv := .agg [aI 0,aI 0,aI 0]) (xs:=(chs (vsT ts) F k++chA (vsT ts) k (F.take j)).map rC) (ys:=[rC ((k:Int),F[j].1,F[j].2)]) zSi zSi zSi rfl rfl zOm zOm (Own.push t _) (by simp[qC]) (YI _) (YI [_]) zSo ?_
    grind
   by_cases J:(decide (k=0)||ts.sA[f].var)=true
   .rw [if_pos J]at hs
    by_cases I:k=0
    .simp_all [go_sem,aC]
    .have hv:ts.sA[f].var=true:=by simpa[I] using J
     simp_all[go_sem,aC]
   .rw [if_neg J,zF]at hs
    have I:¬k=0:=fun h=>J (zP1 h)
    have hv:ts.sA[f].var=false:=by simpa[I] using J
    simp[go_sem,e3,e8,a2,R,a3,C,I,a9,aa,a5,a4,hv,w2]
    try refine⟨C,aC ?_⟩
    try refine aC ?_
    refine⟨zS1 e2,zS1 e3,zS1 i,zS1 l,zS1 e8,zS1 a2,zS1 R,zSi,?_⟩;rw[hs];simpa[go_sem] using Own.push t _
  .have T:j=F.length:=by omega
   subst T;rw[qR]at t;simp[go_sem,l,R,a3,w1]
   try refine⟨a1,aC ?_⟩
   try refine aC ?_
   refine⟨zS1 e2,zS1 e3,zS1 i,zSi,?_⟩;rw[KI];simpa[go_sem] using t
 .have T:k=N:=by omega
  subst T;simp[go_sem,i,l];exact Own.rd ho (YI _).ok fun r hr c J=>by
   obtain⟨n,_,rfl⟩:=qk.1 hr;simp at J;rcases J with rfl|rfl|rfl<;>exact HF.sc _
def selT(g:List Ch)(s f:Nat):List Int:=(g.filter fun c:Ch=>decide (c.1=(s:Int))&&decide (c.2.1=(f:Int))).map fun c=>c.2.2
def wB(g:List Ch)(s f:Nat)(b:Bd):Rl:=unR b.lo ⟨b.lo.ar,selT g s f⟩
def j7(i:List Bool)(j:List Bd)(g:List Ch)(s:Nat):List Rl:=j.mapIdx fun f b=>if s≠0/\i.getD f true=false then wB g 0 f b else wB g s f b
theorem Vb(i g j s):(j7 i g j s).length=g.length:=by simp[j7]
theorem UV(j g i s f h l):(j7 j g i s)[f]=if s≠0/\j.getD f true=false then wB i 0 f g[f] else wB i s f g[f]:=by simp[j7]
theorem qnA(g:List Ch)(s f i h):selT (g.take (i+1)) s f=selT (g.take i) s f++(if g[i].1=s/\g[i].2.1=f then [g[i].2.2] else []):=by
 rw[vP h,selT,List.filter_append,zh];by_cases j:g[i].1=s/\g[i].2.1=f
 .rw [if_pos j,show [g[i]].filter (fun c:Ch=>decide (c.1=(s:Int))&&decide (c.2.1=(f:Int)))=[g[i]] from List.filter_cons_of_pos (p:=fun c:Ch=>decide (c.1=(s:Int))&&decide (c.2.1=(f:Int))) (zUs j)];rfl
 .rw [if_neg j,show [g[i]].filter (fun c:Ch=>decide (c.1=(s:Int))&&decide (c.2.1=(f:Int)))=[] from List.filter_cons_of_neg (p:=fun c:Ch=>decide (c.1=(s:Int))&&decide (c.2.1=(f:Int))) (zUs j)];rfl
theorem qa1(g s f):(selT g s f).length<=g.length:=by rw[selT,zW];exact List.length_filter_le ..
abbrev zR:List AV:=[aI 0,.lst true []]
def jk(L:List Rl)(n j:Nat):List (List AV):=(L.take j).map cRel++qW (n-j) zR
theorem qa2(L n j)(g:L.length=n)(h:j<=n):(jk L n j).length=n:=by grind [jk]
theorem qa3(L n j):yM 2 (jk L n j):=fun r g=>by
 simp only[jk,qM,qk,List.mem_replicate]at g;rcases g with ⟨q,_,rfl⟩|⟨_,rfl⟩<;>rfl
theorem qnB(L n j)(i:L.length=n)(h:j<n):(jk L n j).set j (cRel (L[j]' zOm))=jk L n (j+1):=by
 unfold jk;have g:((L.take j).map cRel).length=j:=zSo;rw[List.set_append_right _ _ zOm,g,Nat.sub_self,show n-j=n-(j+1)+1 by omega,List.replicate_succ,List.set_cons_zero,vP (show j<L.length by omega),zh,zJ];rfl
theorem qnC(L n)(g:L.length=n):jk L n n=L.map cRel:=by
 unfold jk;rw[<-g,qR,Nat.sub_self];simp
structure qa4 (b:Bd):Prop where
 l:b.lo.ts.length<=50000
def jO(sc:Sc)(g:List Bool)(i:List Bd)(j:List Ch)(N:Nat)(loop:Int):Md:=⟨sc,(qs N).map (j7 g i j),loop⟩
theorem qnD(ts)(sc:Sc)(o C loop)(N:Nat)(hS:sc.sN=N)(hN:N<=4)(hl:o.length<=1000)(hb:∀ x,x∈o->qa4 x)(dc:o.length<=ts.sA.length)(dd:C.length<=50000) :
  qg qc 35 [eTS ts,eSc sc,lBd o,aI loop,lCh C] (eMd (jO sc (vsT ts) o C N loop)):=by
 have bj:eMd (jO sc (vsT ts) o C N loop) = .agg [lI sc.sC,aI N,lSt ((qs N).map (j7 (vsT ts) o C)),aI loop]:=by rw[<-hS];rfl
 rw[bj];have a0:=Vb (vsT ts) o C;have bk:=UV (vsT ts) o C;clear bj;generalize hA:j7 (vsT ts) o C=A at a0 bk⊢;refine qSV call35 func35 rfl ?_;simp[go_sem,hS];refine aA N (fun k U=>U.tm 2=lBd o/\U.tm 4=lCh C/\U.tm 5 = .ip (cTS ts)/\U.tm 10 = .ptr 0 0/\U.tm 11 = .ptr 1 0/\U.tm 23=aI N/\U.tm 24=aI k /\
  ∃ s,U.mu[0]?=some (.arr [.lst true [],aI 0,.lst true [],aI 0])/\U.mu[1]?=some (.arr [lI sc.sC,aI N,s,aI loop])/\Own U.mu 1 s (((qs k).map A).map fun r=>[lRel r])/\∀ b,qn s=some b->2<=b) ?_ ?_
 .exact ⟨zSi,zSi,zSi,zSi,zSi,zSi,zSi,.lst true [],zSi,zSi,.inl zSp,by simp[qn]⟩
 rintro k U hk ⟨e2,e4,e5,ck,cl,bm,bn,s,h0,h1,ho,bb⟩;have cm:=(qi.1 h0).1;have de:=(qi.1 h1).1;by_cases bo:k<N
 .have w1:=zWk k
  have cn:(o.length:Int)<=4294967296:=zOm;simp[go_sem,e2,bm,bn,bo,cn];have bq:∀ b,qn s=some b->b<U.mu.length:=fun b h=>Own.lt ho h
  have df:2<=U.mu.length:=zOm;have dh:(qW o.length [AV.sc (Value.int qp 0),AV.lst true []]).flatten=(jk (A k) o.length 0).flatten:=by simp[jk]
  generalize hR:U.mu.length=R at *
  refine aA o.length (fun j st2=>st2.tm 2=lBd o/\st2.tm 4=lCh C/\st2.tm 5 = .ip (cTS ts)/\st2.tm 10 = .ptr 0 0/\st2.tm 11 = .ptr 1 0/\st2.tm 23=aI N/\st2.tm 24=aI k/\st2.tm 12=aI k/\st2.tm 13 = .sl R 2 0 o.length/\st2.tm 30=lBd o/\st2.tm 31=aI o.length/\st2.tm 32=aI j /\
   st2.mu[R]?=some (.arr (jk (A k) o.length j).flatten)/\∀ i,i<R->st2.mu[i]?=U.mu[i]?) ?_ ?_
  .simp_all [go_sem]
  rintro j st2 hj ⟨f2,f4,f5,f10,f11,f23,f24,f12,f13,f30,f31,f32,an,P⟩;have cp:R<st2.mu.length:=(qi.1 an).1;have b7:st2.mu[1]?=some (.arr [lI sc.sC,aI N,s,aI loop]):=by grind
  by_cases I:j<o.length
  .have w2:=zWk j
   have bc:j<ts.sA.length:=zOm;have cq:(vsT ts).getD j true=ts.sA[j].var:=by rw[z6,zn,qz bc];rfl
   have ao:(jk (A k) o.length j).flatten.length=o.length*2:=by rw[yL (qa3 _ _ _),qa2 _ _ _ (a0 k) zOm]
   have a3:∀ s,j<(A s).length:=fun s=>by grind
   have a9:(jk (A k) o.length j).flatten.take (j*2)++aI ((A k)[j]'(a3 k)).ar :: lI ((A k)[j]'(a3 k)).ts :: (jk (A k) o.length j).flatten.drop (j*2+2)=(jk (A k) o.length (j+1)).flatten:=by
    rw[<-qnB (A k) o.length j (a0 k) I,Jp _ j _ (qa3 _ _ _) rfl (by grind [qa2]),jb _ _ _ (by rw[ao];simp only[cRel,zK,List.length_nil];omega)];simp
   have b8:∀ c,(st2.mu++[c])[R]?=some (.arr (jk (A k) o.length j).flatten):=fun c=>by grind
   simp[go_sem,f12,f30,f31,f32,I];by_cases be:k≠0/\ts.sA[j].var=false
   .obtain ⟨bg,hv⟩:=be
    have a2:0<k:=zOm;have aa:(A k)[j]'(a3 k)=(A 0)[j]'(a3 0):=by
     grind
    rw[aa]at a9;have bh:∀ c,(st2.mu++[c])[1]?=some (.arr [lI sc.sC,aI N,s,aI loop]):=fun c=>by grind
    have da:=a3 0;have cr:(((qs k).map A).map fun r=>[lRel r]).flatten[0]?=some (lRel (A 0)):=by
     obtain⟨k',rfl⟩:∃ k',k=k'+1:=⟨k-1,zOm⟩;rw[List.range_succ_eq_map];simp
    have cs:(((qs k).map A).map fun r=>[lRel r]).length=k:=zSp;generalize ab:(((qs k).map A).map fun r=>[lRel r])=rows at *
    have di:rows[0]?=some [lRel (A 0)]:=by
     rw[<-ab];obtain⟨k',rfl⟩:∃ k',k=k'+1:=⟨k-1,zOm⟩;simp
    have br:(rows.map List.length).sum=k:=by
     have:=yL (sz:=1) (xs:=rows) (by rw[<-ab];intro r hr;obtain⟨n,_,rfl⟩:=qk.1 hr;rfl);rw[List.length_flatten]at this;omega
    have bu:rows.flatten.take 1=[lRel (A 0)]:=by
     cases dj:rows.flatten with
     |nil=>grind
     |cons x l=>grind
    simp[go_sem,f5,f11,f13,a2,bc,hv,bh];rcases ho with rfl|⟨c,rfl,bv⟩
    .refine pM (.ip [lRel (A 0)]) (by grind) ?_
     simp[go_sem,I,b8,a0,ao];refine pM ((st2.mu++[Cell.arr (cBd o[j])]).set R (.arr (jk (A k) o.length (j+1)).flatten)) (by rw[if_pos zOm,a9]) ?_;simp[go_sem,f32,I,w2]
     try refine⟨I,aC ?_⟩
     try refine aC ?_
     refine⟨zS1 f2,zS1 f4,zS1 f5,zS1 f10,zS1 f11,zS1 f23,zS1 f24,zS1 f12,zS1 f13,by simp[go_sem,f30],by simp[go_sem,f31],zSi,?_,fun i hi=>?_⟩
     .simp only[qB];rw[qL zSo]
     grind [qB,yE,qJ]
    .have dk:=(qi.1 bv).1
     have bw:∀ x,(st2.mu++[x])[c]?=some (.arr rows.flatten):=fun x=>by rw[zGa,P c zOm];exact bv
     simp[go_sem,a2,bw,cs];refine pM (lRel (A 0)) (by rw[br,if_pos zOm,bu];rfl) ?_;simp[go_sem,I,b8,a0,ao];refine pM ((st2.mu++[Cell.arr (cBd o[j])]).set R (.arr (jk (A k) o.length (j+1)).flatten)) (by rw[if_pos zOm,a9]) ?_;simp[go_sem,f32,I,w2]
     try refine⟨I,aC ?_⟩
     try refine aC ?_
     refine⟨zS1 f2,zS1 f4,zS1 f5,zS1 f10,zS1 f11,zS1 f23,zS1 f24,zS1 f12,zS1 f13,by simp[go_sem,f30],by simp[go_sem,f31],zSi,?_,fun i hi=>?_⟩
     .simp only[qB];rw[qL zSo]
     .simp only[qB];rw[zGl,zGa];exact P i hi
   .have aa:(A k)[j]'(a3 k)=wB C k j o[j]:=by
     rw[bk k j I,cq];by_cases bg:k=0
     .rw [if_neg (fun h=>h.1 bg)]
     .rw [if_neg (fun h=>be h)]
    rw[aa]at a9;have ct:0<k->ts.sA[j].var=true:=fun bg=>by
     cases hv:ts.sA[j].var with
     |true=>rfl
     |false=>exact absurd ⟨zOm,hv⟩ be
    generalize hX:st2.mu.length=X at *
    by_cases a2:0<k
    all_goals simp[go_sem,f4,f5,a2,bc,ct,hX]
    all_goals
     refine aA C.length (fun i st3=>st3.tm 2=lBd o/\st3.tm 4=lCh C/\st3.tm 5 = .ip (cTS ts)/\st3.tm 10 = .ptr 0 0/\st3.tm 11 = .ptr 1 0/\st3.tm 23=aI N/\st3.tm 24=aI k/\st3.tm 12=aI k/\st3.tm 13 = .sl R 2 0 o.length/\st3.tm 30=lBd o/\st3.tm 31=aI o.length/\st3.tm 32=aI j /\
      st3.tm 14=aI j/\st3.tm 15 = .ptr X 0/\st3.tm 16 = .ptr (X+1) 0/\st3.tm 62=lCh C/\st3.tm 63=aI C.length/\st3.tm 64=aI i/\st3.mu[X]?=some (.arr (cBd o[j]))/\(∀ i,i<X->st3.mu[i]?=st2.mu[i]?) /\
      ∃ t,st3.mu[X+1]?=some (.arr [aI o[j].lo.ar,t])/\Own st3.mu 1 t ((selT (C.take i) k j).map rI)/\∀ b,qn t=some b->X+1<b) ?_ ?_
     .refine ⟨zS1 f2,zS1 f4,zS1 f5,zS1 f10,zS1 f11,zS1 f23,zS1 f24,zS1 f12,zS1 f13,by simp[go_sem,f30],by simp[go_sem,f31],by simp[go_sem,f32],zSi,zSi,zSi,zSi,zSi,zSi,zS1 hX,fun i hi=>by simp[go_sem];rw[zGa],.lst true [],zS1 hX,.inl (by simp[selT]),by simp[qn]⟩
     rintro i st3 hi ⟨g2,g4,g5,aq,au,aw,ax,ad,ae,ay,az,b0,a4,b1,a5,b2,af,ag,ca,J,t,b3,ah,a6⟩;by_cases T:i<C.length
     .have w3:=zWk i
      have a7:=qnA C k j i T;have cb:=qa1 (C.take i) k j;have db:=List.length_take_le i C;have cc:=(qi.1 b3).1;have bi:∀ c,(st3.mu++[c])[X]?=some (.arr (cBd o[j])):=fun c=>by rw[zGa];exact ca
      have b4:∀ c,(st3.mu++[c])[X+1]?=some (.arr [aI o[j].lo.ar,t]):=fun c=>by rw[qJ cc];exact b3
      have cd:qn t≠some (X+1):=fun h=>zW1 (a6 _ h)
      simp[go_sem,ad,b2,af,ag,T];by_cases ai:C[i].1=(k:Int)
      .by_cases b5:C[i].2.1=(j:Int)
       .rw [if_pos ⟨ai,b5⟩]at a7
        simp[go_sem,a4,a5,b4,ai,b5];refine qw.ownB (e:=3) (sz:=1) (bt:=8) (zv:=aI 0) (xs:=(selT (C.take i) k j).map rI) (ys:=[rI C[i].2.2]) zSi zSi zSi rfl rfl zOm zOm (Own.push ah _) (by simp[qC]) (yw _) (yw [_]) zSo ?_;intro aj ak a1 a8 b6 cu;have q1:ak[X+1]?=some (.arr [aI o[j].lo.ar,t]):=by rw[a8 _ zSo cd];exact b4 _
        have q0:ak[X]?=some (.arr (cBd o[j])):=by rw[a8 _ zSo (fun h=>zW1 (a6 _ h))];exact bi _
        have ql:=(qi.1 q1).1;have cf:∀ b,qn aj=some b->X+1<b:=fun b h=>by have:=b6 b h;simp at this;omega
        simp[go_sem,a5,ag,T,q1,w3,Own.one a1,Own.cells a1]
        try refine⟨T,aC ?_⟩
        try refine aC ?_
        refine⟨zS1 g2,zS1 g4,zS1 g5,zS1 aq,zS1 au,zS1 aw,zS1 ax,zS1 ad,zS1 ae,zS1 ay,zS1 az,zS1 b0,zS1 a4,zS1 b1,zS1 a5,zS1 b2,zS1 af,zSi,?_,fun i hi=>?_,aj,?_,?_,cf⟩
        .simp only[qB];rw[zGl];exact q0
        .simp only[qB];rw[zGl,a8 i zSo (fun h=>zW1 (a6 _ h)),zGa];exact J i hi
        .simp only[qB];exact qL ql
        .simp only[qB];rw[a7,zh];exact Own.set a1 _ (fun h=>zW1 (cf _ h))
       .rw [if_neg (fun h=>b5 h.2),zF]at a7
        simp[go_sem,a4,ag,T,ai,b5,w3]
        try refine⟨T,aC ?_⟩
        try refine aC ?_
        refine⟨zS1 g2,zS1 g4,zS1 g5,zS1 aq,zS1 au,zS1 aw,zS1 ax,zS1 ad,zS1 ae,zS1 ay,zS1 az,zS1 b0,zS1 a4,zS1 b1,zS1 a5,zS1 b2,zS1 af,zSi,?_,fun i hi=>?_,t,?_,?_,a6⟩
        .simp only[qB];exact bi _
        .simp only[qB];rw[zGa];exact J i hi
        .simp only[qB];exact b4 _
        .simp only[qB];rw[a7];exact Own.push ah _
      .rw [if_neg (fun h=>ai h.1),zF]at a7
       simp[go_sem,ag,T,ai,w3]
       try refine⟨T,aC ?_⟩
       try refine aC ?_
       refine⟨zS1 g2,zS1 g4,zS1 g5,zS1 aq,zS1 au,zS1 aw,zS1 ax,zS1 ad,zS1 ae,zS1 ay,zS1 az,zS1 b0,zS1 a4,zS1 b1,zS1 a5,zS1 b2,zS1 af,zSi,?_,fun i hi=>?_,t,?_,?_,a6⟩
       .simp only[qB];exact bi _
       .simp only[qB];rw[zGa];exact J i hi
       .simp only[qB];exact b4 _
       .simp only[qB];rw[a7];exact Own.push ah _
     .have al:i=C.length:=by omega
      subst al;rw[qR]at ah;simp[go_sem,ae,a4,b1,a5,af,ag,ca,b3];have cb:=qa1 C k j;have cv:=vq o[j].lo ⟨o[j].lo.ar,selT C k j⟩ (zW1 ((hb _ (qq I)).l)) (by show (selT C k j).length<=_;omega);have b9:∀ i,i<X->(cutM (fun i=>!decide (X<=i)) st3.mu 0)[i]?=st2.mu[i]?:=fun i hi=>by
       rw[jB,J i hi];simp only[yb,decide_eq_false (show ¬X<=i by omega),Bool.not_false,if_true];cases st2.mu[i]?<;>rfl
      refine fZ (qA.freeze (args1:=[eRel o[j].lo,eRel ⟨o[j].lo.ar,selT C k j⟩]) (fun i=>decide (X<=i)) ⟨.inl rfl,.inr ?_,trivial⟩ (qg.toSound _ cv (.zk (q9 _) (.zk (q9 _) .nil)))) ?_ ?_
      .exact Rd.aggs ⟨.hf _ (HF.sc _),Own.rd (Yz ah fun b h=>zW1 (a6 b h)) (yw _).ok fun r hr c hc=>by
        obtain⟨n,_,rfl⟩:=qk.1 hr;simp at hc;subst hc;exact HF.sc _,trivial⟩
      .rintro r m ⟨h,rfl⟩
       cases h;have cg:(cutM (fun i=>!decide (X<=i)) st3.mu 0)[R]?=some (.arr (jk (A k) o.length j).flatten):=by rw[b9 R cp];exact an
       simp[go_sem,cg,I,ao];have dm:(cutM (fun i=>!decide (X<=i)) st3.mu 0).length=st3.mu.length:=jG _ _ _;have cc:=(qi.1 b3).1;refine pM ((cutM (fun i=>!decide (X<=i)) st3.mu 0).set R (.arr (jk (A k) o.length (j+1)).flatten)) (by rw[if_pos zOm];exact congrArg (fun l=>some ((cutM (fun i=>!decide (X<=i)) st3.mu 0).set R (Cell.arr l))) a9) ?_;simp[go_sem,b0,I,w2]
       try refine⟨I,aC ?_⟩
       try refine aC ?_
       refine⟨zS1 g2,zS1 g4,zS1 g5,zS1 aq,zS1 au,zS1 aw,zS1 ax,zS1 ad,zS1 ae,zS1 ay,zS1 az,zSi,?_,fun i hi=>?_⟩
       .simp only[qB];rw[qL zOm]
       .simp only[qB];rw[zGl,b9 i zOm];exact P i hi
      .rintro r m ⟨h,_⟩
       cases h
  .have al:j=o.length:=by omega
   subst al;rw[qnC _ _ (a0 k)]at an;have cx:Own st2.mu 2 (.sl R 2 0 o.length) ((A k).map cRel) := .inr ⟨R,zP1 a0,an⟩;simp[go_sem,f11,f13,f31,f32,b7];refine cS (e:=98) (sz:=1) (bt:=24) (zv := .lst true []) (xs:=((qs k).map A).map fun r=>[lRel r]) [lRel (A k)] R zSi zSi zSi rfl rfl zOm zOm ?_ bq ?_ ?_ ?_ zSo ?_
   .rcases ho with h|⟨b,h,hc⟩
    .exact .inl h
    .exact .inr ⟨b,h,by rw[P b (bq b (by rw[h];rfl))];exact hc⟩
   .exact ⟨Own.rd (Yz cx fun b h=>by cases h;exact qo _) (vB _).ok fun r hr c hc=>by
     obtain⟨n,_,rfl⟩:=qk.1 hr;exact ZI n c hc,trivial⟩
   .intro r hr
    obtain⟨n,_,rfl⟩:=qk.1 hr;exact⟨rfl,rfl⟩
   .intro r hr
    simp at hr;subst hr;exact⟨rfl,rfl⟩
   intro aj ak a1 a8 b6 cu dn;have g1:ak[1]?=some (.arr [lI sc.sC,aI N,s,aI loop]):=by rw[a8 1 zOm zOm (fun h=>zW1 (bb 1 h))];exact b7
   have g0:ak[0]?=some (.arr [.lst true [],aI 0,.lst true [],aI 0]):=by rw[a8 0 zOm zOm (fun h=>zW1 (bb 0 h)),P 0 zOm];exact h0
   have l1:=(qi.1 g1).1;simp[go_sem,f11,f24,g1,w1,Own.one a1,Own.cells a1]
   try refine⟨bo,aC ?_⟩
   try refine aC ?_
   refine⟨zS1 f2,zS1 f4,zS1 f5,zS1 f10,zS1 f11,zS1 f23,zSi,aj,zS1 g0,zS1 l1,?_,fun b h=>zW1 (b6 b h)⟩;rw[List.range_succ,zh,zh];simpa[go_sem] using Own.set a1 (.arr [lI sc.sC,aI N,aj,aI loop]) (fun h=>zW1 (b6 1 h))
 .have al:k=N:=by omega
  subst al;have cy:s.one=true:=Own.one ho;have dp:s.cells=[s]:=Own.cells ho;have cj:∀ c,(U.mu.set 0 c)[0]?=some c:=fun c=>qL cm
  simp[go_sem,ck,cl,bm,bn,h0,h1,cy,cj];have cz:=Own.set ho (i:=0) (.arr [lI sc.sC,aI k,s,aI loop]) (fun h=>zW1 (bb 0 h));refine Rd.aggs ⟨.hf _ (zo _),.hf _ (HF.sc _),?_,.hf _ (HF.sc _),trivial⟩;exact Own.rd cz (fun r hr=>by
   obtain⟨n,_,rfl⟩:=qk.1 hr;rfl) fun r hr c hc=>by
   obtain⟨n,_,rfl⟩:=qk.1 hr;simp at hc;subst hc;exact Xq n
end GU
namespace GY
open YF P1 E3 GF GG GH GS GU
section
variable {J:Type}
def subs:List J->List J->List (List J)
 |c,[]=>[c]
 |c,a :: r=>subs c r++subs (c++[a]) r
theorem UW:∀(r c:List J),(subs c r).length=2 ^ r.length
 | [],c=>rfl
 |a :: r,c=>by rw[subs,zb,UW r,UW r,zK,Nat.pow_succ];omega
theorem Vc:∀(r c x:List J),x∈subs c r↔∃ y,y.Sublist r/\x=c++y
 | [],c,x=>by simp[subs]
 |a :: r,c,x=>by
  rw[subs,qM,Vc r,Vc r];constructor
  .rintro (⟨y,h,rfl⟩|⟨y,h,rfl⟩)
   .grind
   simp_all
  .rintro ⟨y,h,rfl⟩
   cases h with
   |cons _ h=>grind
   |cons_cons _ h=>grind
theorem YJ:∀ r c,subL (c.map rC) (r.map rC)=(subs c r).map (List.map rC)
 | [],c=>rfl
 |a :: r,c=>by
  rw[yi,subL,subs,zh,YJ r c,show c.map rC++[rC a]=(c++[a]).map rC by simp,YJ r]
def deI:AV->Int
 | .sc (.int _ n)=>n
 |_=>0
def deC:List AV->Ch
 | [a,b,c]=>(deI a,deI b,deI c)
 |_=>(0,0,0)
theorem qa5(c:List Ch):(c.map rC).map deC=c:=by
 rw[List.map_map];exact(List.map_congr_left fun x _=>rfl).trans (List.map_id c)
def Zj(sc:Sc)(g:List Bool)(i:List Bd)(j:List Ch)(N:Nat):List Md:=(qs N).flatMap fun k:Nat=>(subs [] j).map fun c=>jO sc g i c N (k:Int)
theorem qa6(sc g i j N):vJ (fun k c=>jO sc g i (c.map deC) N (k:Int)) (j.map rC) N=Zj sc g i j N:=by
 unfold vJ Zj;congr 1;funext s;rw[show ([]:List (List AV))=([]:List Ch).map rC from rfl,YJ,List.map_map];exact List.map_congr_left fun c _=>by simp only[Function.comp_apply,qa5]
theorem qnE(sc i j g N):(Zj sc i j g N).length=N*2 ^ g.length:=by
 rw[<-qa6,KH,show ([]:List (List AV))=([]:List Ch).map rC from rfl,YJ,zW,UW]
theorem qa7{sc j l o N m}:m∈Zj sc j l o N↔∃(k:Nat) (c:List Ch),k<N/\c.Sublist o/\m=jO sc j l c N k:=by
 simp only[Zj,wP,yh,qk];constructor
 .rintro ⟨k,g,c,i,rfl⟩
  obtain⟨y,p,rfl⟩:=(Vc _ _ _).1 i;exact⟨k,_,g,p,rfl⟩
 .rintro ⟨k,c,g,i,rfl⟩
  exact⟨k,g,c,(Vc _ _ _).2 ⟨c,i,rfl⟩,rfl⟩
theorem qnF(l:List Ch):Qm (l.map rC):=fun r i=>by
 obtain⟨n,_,rfl⟩:=qk.1 i;exact⟨rfl,rfl,fun c g=>by simp at g;rcases g with rfl|rfl|rfl<;>exact HF.sc _⟩
theorem qnG(ts)(sc:Sc)(g)(N:Nat)(I:sc.sN=N)(J:N<=4)(T:g.length<=1000)(U:∀ x,x∈g->Qn x)(hi:∀ x,x∈g->qa4 x)(j:g.length<=ts.sA.length)(l:(qN g 0).length<=100000)
  (o:(chs (vsT ts) (qN g 0) N).length<=14) (p:N*2 ^ (chs (vsT ts) (qN g 0) N).length<=16384)
  (h1:qg qc 31 [eTS ts,eSc sc] (aB true)) (h2:qg qc 32 [eTS ts,eSc sc,lBd g] (aB true)) :
  qg qc 9 [eTS ts,eSc sc,lBd g] (.tup [lMd (Zj sc (vsT ts) g (chs (vsT ts) (qN g 0) N) N),aI 0]):=by
 rw[<-qa6];generalize r:chs (vsT ts) (qN g 0) N=i at *
 have P:=qa0 ts sc g N I J T U j l;rw[r]at P;have t:(subL [] (i.map rC)).length=2 ^ i.length:=by
  rw[show ([]:List (List AV))=([]:List Ch).map rC from rfl,YJ,zW,UW]
 refine qm9 ts sc g (i.map rC) _ N I J (qnF i) (zUs o) (by rw[t];omega) (zUs p) h1 h2 P fun k hk c R=>?_
 rw[show ([]:List (List AV))=([]:List Ch).map rC from rfl,YJ]at R;obtain⟨c',C,rfl⟩:=qk.1 R;obtain⟨y,hy,rfl⟩:=(Vc _ _ _).1 C;rw[qa5]
 grind [qnD]
end
end GY
namespace GN
open E3
instance:DecidableEq Sc:=fun a b=>decidable_of_iff (a.sC=b.sC/\a.sN=b.sN) (by
 obtain⟨a1,a2⟩:=a;obtain⟨b1,b2⟩:=b;simp)
instance:DecidableEq Md:=fun a b=>decidable_of_iff (a.sc=b.sc/\a.sK=b.sK/\a.loop=b.loop) (by
 obtain⟨a1,a2,a3⟩:=a;obtain⟨b1,b2,b3⟩:=b;simp)
end GN
namespace GV
open Y1 YF P1 E3 EO EQ F1 F4 GF GH GR GS
def modG(i:Md->Bool×Int):List Md->List Md->List Md×Int
 |g,[]=>(g,0)
 |g,m :: l=>if (i m).2≠0 then ([],(i m).2) else modG i (if (i m).1=true then g++[m] else g) l
def modV(i:Md->Bool×Int)(L:List Md)(g:Int):List Md×Int:=if g≠0 then ([],g) else modG i [] L
theorem UX(l):HF (lMd l):=HF.lst fun r i c g=>by
 obtain⟨n,_,rfl⟩:=qk.1 i;simp at g;rcases g with rfl|rfl|rfl|rfl<;>first|exact HF.sc _|exact zo _|exact XT _
theorem qnH(ts sc bs n L e0 t)(hl:L.length<=1000000)
  (hI:qg qc 9 [eTS ts,eSc sc,lBd bs] (.tup [lMd L,aI e0]))
  (hH:∀ m,m∈L->qg qc 11 [eTS ts,eMd m,eNd n] (.tup [aB (t m).1,aI (t m).2])) :
  qg qc 10 [eTS ts,eSc sc,lBd bs,eNd n] (.tup [lMd (modV t L e0).1,aI (modV t L e0).2]):=by
 refine qSU call10 func10 rfl ?_;refine pL hI (.zk (zq _) (.zk (zH _) (.zk (yH _) .nil))) ?_;have a6:∀(l:List Md)(e:Int),HF (.tup [lMd l,aI e]):=fun l e=>HF.tup (by simp only[qv,qI,or_false,forall_eq_or_imp,forall_eq];exact⟨UX _,HF.sc _⟩)
 have a0:∀(C:Mu)(e:Int),Rd C (.tup [.lst true [],aI e]) (.tup [lMd [],aI e]):=fun C e=>by
  refine .tup _ _ rfl fun j x y hx J=>?_
  match j with
  | 0=>simp at hx J;subst hx;subst J;exact .wk _ true _ (.hf _ (HF.lst fun r hr=>by simp at hr))
  | 1=>simp at hx J;subst hx;subst J;exact .zsc _
  |j+2=>simp at hx
 by_cases a2:e0=0
 case neg =>
  simp[go_sem,a2,modV];exact a0 _ _
 subst a2;have a3:modV t L 0=modG t [] L:=by simp[modV]
 rw[a3];generalize hR:modG t [] L=R;simp[go_sem];refine aA L.length (fun k U=>U.tm 4 = .ip (cTS ts)/\U.tm 5 = .ip [lI sc.sC,aI sc.sN]/\U.tm 7 = .ip (cNd n)/\U.tm 27=lMd L/\U.tm 28=aI L.length/\U.tm 29=aI k/\∃ i,modG t i (L.drop k)=R/\i.length<=k/\Own U.mu 4 (U.tm 12) (i.map cMd)) ?_ ?_
 .exact ⟨zSi,zSi,zSi,zSi,zSi,zSi,[],zUs hR,zSp,.inl zSi⟩
 rintro k U hk ⟨e4,e5,e7,a1,P,T,i,I,a7,ho⟩;by_cases o:k<L.length
 .have w1:=zWk k
  have hh:=hH _ (qq o);rw[zy o,modG]at I;simp[go_sem,e4,e7,a1,P,T,o];refine pL hh (.zk (zq _) (.zk (zu _) (.zk (qK _) .nil))) ?_;by_cases he:(t L[k]).2=0
  case neg =>
   rw[if_pos he]at I;subst I;simp[go_sem,he];exact a0 _ _
  rw[if_neg (fun h=>h he)]at I;cases hb:(t L[k]).1 with
  |false =>
   rw[hb]at I;simp[go_sem,T,o,he,w1]
   try refine⟨o,aC ?_⟩
   try refine aC ?_
   exact⟨zS1 e4,zS1 e5,zS1 e7,zS1 a1,zS1 P,zSi,i,zUs I,zOm,by simpa[go_sem] using Own.push ho _⟩
  |true =>
   rw[hb,if_pos rfl]at I;simp[go_sem,he];refine qw.ownB (e:=43) (sz:=4) (bt:=64) (zv := .agg [.lst true [],aI 0,.lst true [],aI 0]) (xs:=i.map cMd) (ys:=[cMd L[k]]) zSi zSi zSi rfl rfl zOm zOm (Own.push ho _) (by simp[qC]) (Va _) (Va [_]) zSo ?_;intro a8 a9 a4 _ _ _;simp[go_sem,T,o,w1]
   try refine⟨o,aC ?_⟩
   try refine aC ?_
   exact⟨zS1 e4,zS1 e5,zS1 e7,zS1 a1,zS1 P,zSi,i++[L[k]],I,zSo,by rw[zh];simpa[go_sem] using a4⟩
 .have a5:k=L.length:=by omega
  subst a5;rw[yA,modG]at I;subst I;simp[go_sem,P,T];refine .tup _ _ rfl fun j x y hx J=>?_
  match j with
  | 0=>simp at hx J;subst hx;subst J;exact cG ho
  | 1=>simp at hx J;subst hx;subst J;exact .zsc _
  |j+2=>simp at hx
def mdZ:Md:=⟨⟨[],0⟩,[],0⟩
theorem qnI(mu):Rd mu (.agg [.lst true [],aI 0,.lst true [],aI 0]) (eMd mdZ):=
 Rd.aggs ⟨.wk _ true _ (.hf _ (HF.lst fun r g=>by simp at g)),.hf _ (HF.sc _),.wk _ true _ (.hf _ (HF.lst fun r g=>by simp at g)),.hf _ (HF.sc _),trivial⟩
end GV
namespace GW
open YF P1 E1 E4 E9 EL EO ER EW GA GF G5 GQ GR
theorem qa8:∀ l x i,0<=x->wq l x i = -1\/∃(j:Nat) (h:j<l.length),wq l x i=i+j/\0<=x-sumI (l.take j)/\x-sumI (l.take j)<l[j]
 | [],x,i,_ => .inl rfl
 |a :: l,x,i,h=>by
  rw[wq];by_cases hx:x<a
  .grind [sumI]
  .rw [if_neg hx]
   rcases qa8 l (x-a) (i+1) zOm with e|⟨j,g,o,p,r⟩
   .exact .inl e
   .refine .inr ⟨j+1,zUs g,by rw[o];push_cast;omega,?_,?_⟩
    .simp only[List.take_succ_cons,sumI,List.foldr_cons]at p⊢;omega
    .simp only[List.take_succ_cons,sumI,List.foldr_cons,List.getElem_cons_succ]at r⊢;omega
def Vd(n:Int)(ds:List Int)(p:Int):Int:=ds.foldl (fun p d=>p*n+d) p
theorem qa9(n)(i:0<n):∀ k r,0<=r->r<n ^ k->Vd n (digs n k r) 0=r
 | 0,r,j,g=>by
  have:r=0:=by rw[Int.pow_zero]at g;omega
  subst this;rfl
 |k+1,r,j,g=>by
  have l:r / n<n ^ k:=Int.ediv_lt_of_lt_mul i (by rw[<-Int.pow_succ];exact g);rw[digs,Vd,vR];show Vd n (digs n k (r / n)) 0*n+r % n=r;rw[qa9 n i k (r / n) (Int.ediv_nonneg j zOm) l,Int.mul_comm];exact Int.mul_ediv_add_emod r n
theorem qbA(sc)(hA:∀ a,a∈sc.sC->0<=a):∀(l ds:List Int)(p),ds.length=l.length->(∀ s,s∈l->0<=s)->(∀(i h)(h2:i<l.length),0<=ds[i]/\uN sc ds[i]=l[i])->Vd (sumI sc.sC) ds p∈tupR sc l p
 | [],[],p,_,_,_=>by simp[tupR,Vd]
 |s :: l,d :: ds,p,o,I,h=>by
  rw[tupR,wP];obtain⟨r,g⟩:=h 0 zSp zSp;simp only[List.getElem_cons_zero]at r g;have J:=I s zSp;rcases qa8 sc.sC d 0 r with e|⟨j,P,R,e2,e3⟩
  .rw [uN,e]at g;omega
  .rw [uN,R]at g
   have t:s.toNat=j:=zOm;have hg:gI sc.sC s.toNat=sc.sC[j]:=by rw[t];exact uH P
   refine⟨(d-sumI (sc.sC.take j)).toNat,yh.2 (by rw[hg];omega),?_⟩;have:=qbA sc hA l ds (p*sumI sc.sC+d) (zUs o) (fun s T=>I s (zP1 T)) (fun i U C=>h (i+1) (zUs U) (zUs C));rw[t,show sumI (sc.sC.take j)+((d-sumI (sc.sC.take j)).toNat:Int)=d by omega];exact this
 | [],_ :: _,_,o,_,_=>by simp at o
 |_ :: _,[],_,o,_,_=>by simp at o
theorem qnJ(sc)(g:GSc sc)(hp:0<sumI sc.sC)(l:List Int)(C:l.length<=3)(I:∀ s,s∈l->0<=s/\s<sc.sC.length):∀ x,x∈yJ sc l->x∈tupR sc l 0:=fun x hx=>by
 have j:=g.sum sc.sC.length;rw[qR]at j;have J:=Yt (sumI sc.sC) j.1 j.2 l.length C;unfold yJ vr at hx;obtain⟨r,P,rfl⟩:=qk.1 hx;obtain⟨R,T⟩:=List.mem_filter.1 P;rw[yh]at R;have o:(r:Int)<sumI sc.sC ^ l.length:=zOm;have hf:=qa9 (sumI sc.sC) hp l.length r zOm o;have hm:=qbA sc (fun a U=>(g.2 a U).1) l (digs (sumI sc.sC) l.length r) 0 (Yu _ _ _) (fun s p=>(I s p).1) (fun i hi t=>?_)
 .grind
 .have hd:=X4 (sumI sc.sC) hp j.2 l.length r _ (qq hi)
  refine⟨hd.1,?_⟩;have:=Xs.1 T i t
  grind [uH]
theorem KM(ts sc)(F:Fit9 ts sc)(t:y9 sc=true):qg qc 31 [eTS ts,eSc sc] (aB true):=by
 have hg:=F.g;simp only[y9,qF,decide_eq_true_eq,List.all_eq_true]at t;obtain⟨h1,I,J,P,R⟩:=t;have o:=F.ns;refine qSV call31 func31 rfl ?_;have T:¬(4:Int)<sc.sC.length:=zOm;simp[go_sem,T,o];have C:=fun a b c:Int=>UG a b c
 refine pL (C sc.sN 1 4) (wk3I _ _ _) ?_;simp[go_sem,I,J];refine aA sc.sC.length (fun k U=>U.tm 2 = .ip (cTS ts)/\U.tm 3 = .ip [lI sc.sC,aI sc.sN]/\U.tm 27=lI sc.sC/\U.tm 28=aI sc.sC.length/\U.tm 29=aI k) ?_ ?_
 .simp [go_sem, *]
 rintro k U hk ⟨e2,e3,p,i,j⟩;by_cases l:k<sc.sC.length
 .have w1:=zWk k
  have ha:=P _ (qq l);simp[go_sem,p,i,j,l];refine pL (C sc.sC[k] 1 5) (wk3I _ _ _) ?_;simp_all[go_sem,aC]
 .have r:k=sc.sC.length:=by omega
  simp[go_sem,e3,i,j,r];refine pL (Yp sc hg) (.zk (zH sc) .nil) ?_;simp[go_sem,R];exact .zsc _
theorem qnK(n)(r:Rl)(T:0<=n)(a0:n<=12)(k:Nat)(hk:r.ar=k)(k1:1<=k)(k3:k<=3)(hl:r.ts.length<=1000000000)(hs:r.ts.Pairwise (·<·))(ht:∀ t,t∈r.ts->0<=t/\t<n ^ k):qg qc 68 [aI n,eRel r] (aB true):=by
 have C:=nX n T zOm k k3;refine qSV call68 func68 rfl ?_;have n1:¬n<0:=zOm;have n2:¬ 12<n:=zOm;have n3:¬r.ar<1:=zOm;have n4:¬ 3<r.ar:=zOm;simp[go_sem,n1,n2,n3,n4];refine aA r.ts.length (fun j U=>U.tm 0=aI n/\U.tm 3 = .ip [aI r.ar,lI r.ts]/\U.tm 25=lI r.ts/\U.tm 26=aI r.ts.length/\U.tm 27=aI j/\∃ last:Int,U.tm 5=aI last/\∀(i:Nat)(h:i<r.ts.length),j<=i->last<r.ts[i]) ?_ ?_
 .exact ⟨zSi,zSi,zSi,zSi,zSi,-1,zSi,fun i h _=>by grind [qq]⟩
 rintro j U hj ⟨P,R,p,l,o,last,e5,I⟩;by_cases g:j<r.ts.length
 .have w1:=zWk j
  have a1:=I j g (qo _);have a2:=ht _ (qq g);have m1:¬r.ts[j]<=last:=zOm;have m2:¬n ^ k<=r.ts[j]:=zOm;simp[go_sem,P,R,p,l,o,e5,g,m1];refine pL C (by rw[hk];exact .zs (.zs .nil)) ?_;simp[go_sem,o,g,m2,w1]
  try refine⟨g,aC ?_⟩
  try refine aC ?_
  exact⟨zS1 P,zS1 R,zS1 p,zS1 l,zSi,r.ts[j],zSi,fun i h hi=>List.pairwise_iff_getElem.1 hs j i g h zOm⟩
 .have J:j=r.ts.length:=by omega
  simp[go_sem,l,o,J];exact .zsc _
structure BndV (ts:TS) (sc:Sc) (bs:List Bd):Prop where
 len:bs.length=ts.sA.length
 lo:∀(i:Nat)(h:i<bs.length)(h2:i<ts.sA.length),bs[i].lo.ar=ts.sA[i].sS.length/\bs[i].up.ar=ts.sA[i].sS.length
 so:∀ b,b∈bs->b.lo.ts.Pairwise (·<·)/\b.up.ts.Pairwise (·<·)
 sub:∀ b,b∈bs->∀ t,t∈b.lo.ts->t∈b.up.ts
 full:∀(i:Nat)(h:i<bs.length)(h2:i<ts.sA.length),∀ t,t∈bs[i].up.ts->t∈yJ sc ts.sA[i].sS
theorem qbB{a b}(h:∀ t,t∈a.ts->t∈b.ts):(diR a b).ts=[]:=by
 grind [diR,List.filter_eq_nil_iff]
theorem qbC(sc l):∀ t,t∈yJ sc l->0<=t/\t<(sumI sc.sC ^ l.length).toNat:=fun t g=>qkN _ _ _ t g
theorem qbD(sc)(g:GSc sc)(l)(j:l.length<=3):(yJ sc l).length<=8000:=by
 have i:=g.sum sc.sC.length;rw[qR]at i;have o:=Yt (sumI sc.sC) i.1 i.2 l.length j;refine zG (X5 _ _ _) ?_;omega
theorem YK{a b:List Int}(g:a.Pairwise (·<·))(h:∀ t,t∈a->t∈b):a.length<=b.length:=jT (qjB g) h
theorem relT(ts sc)(F:Fit9 ts sc)(l:sumI sc.sC<=12)(f)(hf:f∈ts.sA)(r:Rl)(o:r.ar=f.sS.length)(C:r.ts.Pairwise (·<·))(i:∀ t,t∈r.ts->t∈yJ sc f.sS):qg qc 68 [aI (sumI sc.sC),eRel r] (aB true)/\r.ts.length<=8000:=by
 have R:=YK C i;have I:=qbD sc F.g f.sS (F.f1 f hf).2;have hp:=F.p;have j:=F.g.sum sc.sC.length;rw[qR]at j;have J:=Yt (sumI sc.sC) j.1 j.2 f.sS.length (F.f1 f hf).2;exact⟨qnK _ r zOm l f.sS.length o (F.f1 f hf).1 (F.f1 f hf).2 zOm C fun t P=>zW1 (qbC sc f.sS t (i t P)),zOm⟩
theorem qnL(ts sc)(F:Fit9 ts sc)(f)(hf:f∈ts.sA)(r)(J:r.ts.length<=8000)(i:∀ t,t∈r.ts->t∈yJ sc f.sS):qg qc 48 [eRel r,eRel ⟨f.sS.length,tupR sc f.sS 0⟩] (aB true):=by
 have j:=XZ sc F.g (fun a l=>(F.g.2 a l).1) f.sS (F.fs f hf) 0;have o:=(F.f1 f hf).2;have C:(20:Nat) ^ f.sS.length<=8000:=by
  rcases (show f.sS.length=0\/f.sS.length=1\/f.sS.length=2\/f.sS.length=3 by omega) with e|e|e|e<;>rw[e]<;>decide
 have h:=inU r ⟨f.sS.length,tupR sc f.sS 0⟩ zOm (by grind)
 rwa[qbB fun t I=>qnJ sc F.g F.p f.sS o (F.fs f hf) t (i t I),decide_eq_true rfl]at h
theorem qnM(fs:List Fld)(l)(J:l.length=fs.length)(hn:fs.length<=1000000)(r g caps)(t:r = .fn (.func g) [] caps)(P:HF r)
  (h:∀(i h1)(h2:i<l.length),∃ args',WKs ([Xp fs[i],eBd l[i]]++caps) args'/\qg qc g args' (aB true)) :
  qg qc 66 [.lst false (fs.map jZ),lBd l,r] (aB true):=by
 subst t;refine qSV call66 func66 rfl ?_;simp[go_sem,J];refine aA fs.length (fun k U=>U.tm 0 = .lst false (fs.map jZ)/\U.tm 1=lBd l/\U.tm 2 = .fn (.func g) [] caps/\U.tm 14=aI fs.length/\U.tm 15=aI k) ?_ ?_
 .simp [go_sem, *]
 rintro k U hk ⟨R,T,e2,o,p⟩;by_cases j:k<fs.length
 .have w1:=zWk k
  obtain⟨args',hw,hc⟩:=h k j zOm;have C:k<l.length:=zOm;simp[go_sem,o,p,j];refine cL zKr ?_;simp[go_sem,R,T,e2,j,C];refine fW hc (zUs hw) ?_;simp_all[go_sem,aC]
 .have I:k=fs.length:=by omega
  simp[go_sem,o,p,I];exact .zsc _
theorem qbE(ts sc l)(F:Fit9 ts sc)(a0:sumI sc.sC<=12)(B:BndV ts sc l):qg qc 32 [eTS ts,eSc sc,lBd l] (aB true):=by
 have a8:=F.nf;have a4:∀(i:Nat)(R:i<ts.sA.length)(T:i<l.length),qg qc 67 [Xp ts.sA[i],eBd l[i],.ip [aI (sumI sc.sC)],.ip [lI sc.sC,aI sc.sN]] (aB true):=fun i R T=>by
  obtain⟨a1,U⟩:=B.lo i T R;have o:=qq R;have J:=qq T;obtain⟨s1,s2⟩:=B.so _ J;have P:=B.full i T R;have a5:∀ t,t∈l[i].lo.ts->t∈yJ sc ts.sA[i].sS:=fun t ht=>P t (B.sub _ J t ht)
  obtain⟨v1,l1⟩:=relT ts sc F a0 _ o l[i].lo a1 s1 a5;obtain⟨v2,l2⟩:=relT ts sc F a0 _ o l[i].up U s2 P;have i1:=inU l[i].lo l[i].up zOm zOm;rw[qbB (B.sub _ J),decide_eq_true rfl]at i1;have i2:=qnL ts sc F _ o l[i].up l2 P;have a6:=EW.mw sc F.g (fun a ha=>(F.g.2 a ha).1) ts.sA[i].sS (F.fs _ o) (F.f1 _ o).1 (F.f1 _ o).2;have w2:∀ r:Rl,WKs [aI (sumI sc.sC),eRel r] [aI (sumI sc.sC),eRel r]:=fun r => .zs (.zk (q9 _) .nil)
  have wr:∀(r:Rl)(x:Int),r.ar=x->WK (.agg [aI x,lI r.ts]) (eRel r):=fun r x e=>by subst e;exact .hf (q9 r)
  have wa:=wr l[i].lo _ a1;have wb:=wr l[i].up _ U;refine qSV call67 func67 rfl ?_;simp[go_sem,a1,U];refine pL v1 (.zs (.cons wa .nil)) ?_;simp[go_sem,U];refine fR v2 (.zs (.cons wb .nil)) ?_;refine cL zKr ?_;simp[go_sem,a1,U];refine pL i1 (.cons wa (.cons wb .nil)) ?_;simp[go_sem,U];refine fR a6 (.zk (zH _) (.zk (zo _) .nil)) ?_;refine fR i2 (.cons wb (.zk (q9 _) .nil)) ?_;exact .zsc _
 have j:HF (.ip [lI sc.sC,aI sc.sN]):=HF.ip fun c C=>by simp at C;rcases C with rfl|rfl;exact zo _;exact HF.sc _
 have I:HF (.ip [aI (sumI sc.sC)]):=HF.ip fun c C=>by grind [HF.sc]
 have a3:HF (.fn (.func 67) [] [.ip [aI (sumI sc.sC)],.ip [lI sc.sC,aI sc.sN]]):=HF.fn (fun c C=>by simp at C) (fun c C=>by simp at C;rcases C with rfl|rfl;exact I;exact j);have p:=qnM ts.sA l B.len zOm _ _ _ rfl a3 fun i R T=>⟨_,by simpa using WKs.zk (qiB _) (.zk (qaU _) (.zk I (.zk j .nil))),a4 i R T⟩
 refine qSU call32 func32 rfl ?_;refine fR (Yp sc F.g) (.zk (zH sc) .nil) ?_;refine fZ (qA.freeze (args1:=[.lst false (ts.sA.map jZ),lBd l,.fn (.func 67) [] [.ip [aI (sumI sc.sC)],.ip [lI sc.sC,aI sc.sN]]]) (fun _=>true) ⟨.inl rfl,.inl rfl,.inr ?_,trivial⟩ (qg.toSound _ p (.zk (Yn ts.sA) (.zk (yH _) (.zk a3 .nil))))) ?_ ?_
 .refine .fn _ _ _ _ _ rfl rfl (fun k x y hx hy=>by simp at hx) (fun k x y hx hy=>?_)
  match k with
  | 0=>simp at hx hy;subst hx;subst hy;exact ER.Rd.ip1 (x:=aI (sumI sc.sC)) (by simp[cutM]) (.hf _ (HF.sc _))
  | 1=>simp at hx hy;subst hx;subst hy;exact .hf _ j
  |k+2=>simp at hx
 .rintro r m ⟨h,rfl⟩
  cases h;simp[go_sem];exact .zsc _
 grind
end GW
namespace IT
open YF P1 EO GH GR ER
theorem qnN(a b g)(hf:HF g)(h:¬a.length=b.length):qg qc 66 [lFl a,lBd b,g] (aB false):=by
 have i:¬(a.length:Int)=b.length:=zOm;refine qSV call66 func66 rfl ?_;simp[go_sem,h,i];exact .zsc _
theorem qnO(ts sc)(F:Fit9 ts sc)(C)(h:¬ts.sA.length=C.length):qg qc 32 [eTS ts,eSc sc,lBd C] (aB false):=by
 have i:HF (.ip [lI sc.sC,aI sc.sN]):=HF.ip fun c j=>by simp at j;rcases j with rfl|rfl;exact zo _;exact HF.sc _
 have o:HF (.ip [aI (sumI sc.sC)]):=HF.ip fun c j=>by simp at j;subst j;exact HF.sc _
 have p:HF (.fn (.func 67) [] [.ip [aI (sumI sc.sC)],.ip [lI sc.sC,aI sc.sN]]):=HF.fn (fun c j=>by simp at j) (fun c j=>by simp at j;rcases j with rfl|rfl;exact o;exact i);have l:=qnN ts.sA C _ p h;refine qSU call32 func32 rfl ?_;refine fR (Yp sc F.g) (.zk (zH sc) .nil) ?_;refine fZ (qA.freeze (args1:=[.lst false (ts.sA.map jZ),lBd C,.fn (.func 67) [] [.ip [aI (sumI sc.sC)],.ip [lI sc.sC,aI sc.sN]]]) (fun _=>true) ⟨.inl rfl,.inl rfl,.inr ?_,trivial⟩ (qg.toSound _ l (.zk (Yn ts.sA) (.zk (yH _) (.zk p .nil))))) ?_ ?_
 .refine .fn _ _ _ _ _ rfl rfl (fun k x y hx t=>by simp at hx) (fun k x y hx t=>?_)
  match k with
  | 0=>simp at hx t;subst hx;subst t;exact ER.Rd.ip1 (x:=aI (sumI sc.sC)) (by simp[cutM]) (.hf _ (HF.sc _))
  | 1=>simp at hx t;subst hx;subst t;exact .hf _ i
  |k+2=>simp at hx
 .rintro r m ⟨h,rfl⟩
  cases h;simp[go_sem];exact .zsc _
 .rintro r m ⟨h,_⟩
  cases h
theorem rdE(mu e):Rd mu (.tup [.lst true [],aI e]) (.tup [lMd [],aI e]):=by
 refine .tup _ _ rfl (fun k u v g i=>?_)
 match k with
 | 0=>simp at g i;subst g;subst i;exact .wk _ true _ (.hf _ (HF.lst fun r j=>absurd j qI))
 | 1=>simp at g i;subst g;subst i;exact .zsc _
 |k+2=>simp at g
theorem qnP(ts sc g)(i:qg qc 31 [eTS ts,eSc sc] (aB true))(j:qg qc 32 [eTS ts,eSc sc,lBd g] (aB false)) :
  qg qc 9 [eTS ts,eSc sc,lBd g] (.tup [lMd [],aI 1]):=by
 refine qSU call9 func9 rfl ?_;refine fR i (.zk (zq _) (.zk (zH _) .nil)) ?_;refine fR j (.zk (zq _) (.zk (zH _) (.zk (yH _) .nil))) ?_;exact rdE _ 1
theorem qnQ(ts sc g cs)(p:14<cs.length)(j:qg qc 31 [eTS ts,eSc sc] (aB true))(l:qg qc 32 [eTS ts,eSc sc,lBd g] (aB true))(o:qg qc 33 [eTS ts,eSc sc,lBd g] (.lst false cs)) :
  qg qc 9 [eTS ts,eSc sc,lBd g] (.tup [lMd [],aI 2]):=by
 refine qSU call9 func9 rfl ?_;refine fR j (.zk (zq _) (.zk (zH _) .nil)) ?_;refine fR l (.zk (zq _) (.zk (zH _) (.zk (yH _) .nil))) ?_;refine pL o (.zk (zq _) (.zk (zH _) (.zk (yH _) .nil))) ?_;have i:(14:Int)<cs.length:=zOm;simp[go_sem,i];exact rdE _ 2
end IT
namespace YZ
open YM P1 Y1 Y9 YX
mutual
def depN:Nd->Int
 | .mk _ _ _ ks _=>yr ks+1
def yr:List Nd->Int
 | []=>0
 |k :: ks=>max (depN k) (yr ks)
end
mutual
theorem qnR:∀ n:Nd,0<=depN n
 | .mk _ _ _ ks _=>by simp only[depN];have:=Ve ks;omega
theorem Ve:∀ ks:List Nd,0<=yr ks
 | []=>by simp[yr]
 |k :: ks=>by simp only[yr];have:=Ve ks;omega
end
theorem wC(n):depN n=yr n.sD+1:=by
 obtain⟨op,nm,i,ks,p⟩:=n;simp[depN,Nd.sD]
theorem KN{ks k}(h:k∈ks):depN k<=yr ks:=by
 induction ks with
 |nil=>simp at h
 |cons a l g =>
  simp only[yr];rcases qv.1 h with rfl|h
  .omega
  .have:=g h;omega
theorem qbF:∀ m n,szN n<=m->Small n->depN n<=1000000->qg qc 81 [eNd n] (aI (depN n))
 | 0,n,I,_,_=>by obtain⟨op,nm,i,ks,p⟩:=n;simp[szN]at I
 |m+1,n,I,J,P=>by
  have ih:∀ k,k∈n.sD->qg qc 81 [eNd k] (aI (depN k)):=fun k j =>
   qbF m k (zW1 (yn j)) (J.kid j) (by rw[wC]at P;have:=KN j;omega)
  rw[wC]at P⊢;have R:=J.len;have a0:=Ve n.sD;generalize hD:yr n.sD=D at *
  refine qSU call81 func81 rfl ?_;refine aA n.sD.length (fun k U=>∃ d,U.tm 3=aI d/\U.tm 7=lNd n.sD/\U.tm 8=aI n.sD.length/\U.tm 9=aI k/\0<=d/\max d (yr (n.sD.drop k))=D) ?_ ?_
  .exact ⟨0,zSi,zSi,zSi,zSi,zOm,by simp only[List.drop_zero,hD];omega⟩
  .rintro k U j ⟨d,T,e7,o,r,a1,l⟩
   by_cases t:k=n.sD.length
   .subst t
    rw[yA]at l;simp only[yr]at l;have C:d=D:=zOm;subst C;have w:qp.wrap (d+1)=d+1:=zWr;simp[go_sem,T,o,r,w];exact .zsc _
   .have g:k<n.sD.length:=by omega
    have w1:=zWk k;rw[zy g]at l;simp only[yr]at l;simp[go_sem,T,e7,o,r,g];refine pL (ih n.sD[k] (qq g)) (.zk (qK _) .nil) ?_;simp[go_sem,r,w1];refine⟨g,aC ?_⟩;refine⟨if d<depN n.sD[k] then depN n.sD[k] else d,zSi,zS1 e7,zS1 o,zSi,?_,?_⟩
    .have:=qnR n.sD[k]
     split<;>omega
    .split<;>omega
mutual
def preN:Nd->List Nd
 | .mk op nm n ks p => .mk op nm n ks p :: zz ks
def zz:List Nd->List Nd
 | []=>[]
 |k :: ks=>preN k++zz ks
end
theorem ur(n):preN n=n :: zz n.sD:=by
 obtain⟨op,nm,i,ks,p⟩:=n;simp[preN,Nd.sD]
theorem YL(a b):zz (a++b)=zz a++zz b:=by
 induction a with
 |nil=>rfl
 |cons x a g=>simp[zz,g]
theorem KO{f caps}(I:List Nd->Mu->Prop)(hp:∀ v mu l,I v mu->I v (mu++l))(hf:∀ v k mu,I v mu->qA qc f (eNd k :: caps) mu fun e m=>e = .ret (.tup [])/\I (v++[k]) m) :
  ∀ m n,szN n<=m->Small n->∀ v mu,I v mu->qA qc 74 [eNd n,.fn (.func f) [] caps] mu fun e m=>e = .ret (.tup [])/\I (v++preN n) m
 | 0,n,hm,_,_,_,_=>by obtain⟨op,nm,i,ks,p⟩:=n;simp[szN]at hm
 |m+1,n,hm,hs,v,mu,J=>by
  have ih:∀ k,k∈n.sD->∀ v mu,I v mu->qA qc 74 [eNd k,.fn (.func f) [] caps] mu fun e m=>e = .ret (.tup [])/\I (v++preN k) m:=fun k P v mu J =>
   KO I hp hf m k (zW1 (yn P)) (hs.kid P) v mu J
  have a1:=hs.len;rw[ur];refine qSW call74 func74 rfl {} ?_;simp[go_sem];refine fH (hf v n mu J) ?_ (by rintro r m ⟨e,_⟩;cases e);rintro r m ⟨e,R⟩;cases e;simp[go_sem];refine aA n.sD.length (fun k U=>U.tm 1 = .fn (.func f) [] caps/\U.tm 10=lNd n.sD/\U.tm 11=aI n.sD.length/\U.tm 12=aI k/\I (v++[n]++zz (n.sD.take k)) U.mu) ?_ ?_
  .exact ⟨zSi,zSi,zSi,zSi,by simpa[go_sem,zz] using R⟩
  .rintro k U P ⟨e1,C,j,o,t⟩
   by_cases T:k=n.sD.length
   .subst T
    rw[qR]at t;simp[go_sem,j,o];simpa using t
   .have g:k<n.sD.length:=by omega
    have w1:=zWk k;simp[go_sem,e1,C,j,o,g];refine fZ (ih n.sD[k] (qq g) _ _ (hp _ _ _ t)) ?_ (by rintro r m ⟨e,_⟩;cases e);rintro r m ⟨e,a0⟩;cases e;simp[go_sem,o,w1];refine⟨g,aC ?_⟩;refine⟨zS1 e1,zS1 C,zS1 j,zSi,?_⟩;have e:zz (n.sD.take (k+1))=zz (n.sD.take k)++preN n.sD[k]:=by
     rw[List.take_add_one,qz g,YL];simp[zz]
    rw[e,<-zJ];simpa[go_sem] using a0
def setN(l:List tC)(b:tC):List (tC×Bool)->List (tC×Bool):=fun I=>setK b true I
abbrev eSet(es:List (tC×Bool)):List (AV×AV):=encK aS aB es
theorem updS{mu b es}(i:mu[b]?=some (.mp (eSet es)))(nm) :
  jI qc mu 141 (.mp b) (aS nm) (aB true)=some (mu.set b (.mp (eSet (setK nm true es)))):=
 keyS.update (et:=4) (t:=141) zSi (mu:=mu) (b:=b) (venc:=aB) (es:=es) i (k:=nm) (v:=true) trivial (fun _ _=>trivial)
theorem qnS(ts s tb c es n){mu p g xb}(r:mu[p]?=some (.arr [.ptr xb 0]))(hx:mu[xb]?=some (.arr (cIn ts tb s)))(l:mu[g]?=some (.arr [aB c]))(j:mu[tb]?=some (.mp (eSet es))) :
  qA qc 75 [eNd n,.ptr p 0,.ptr g 0] mu fun e m=>e = .ret (.tup [])/\m=(mu.set tb (.mp (eSet (setK n.name true es)))).set g (.arr [aB (c||decide (n.op=47))]):=by
 refine qSW call75 func75 rfl {} ?_;have t:g<mu.length:=(qi.1 l).1;have C:tb<mu.length:=(qi.1 j).1;simp[go_sem];refine cL zKr ?_;have I:=updS j n.name;simp[go_sem,r,hx];refine pM _ I ?_;have o:tb≠g:=fun e=>by rw[e,l]at j;cases j
 generalize J:Cell.mp (eSet (setK n.name true es))=N at *
 have i:(mu.set tb N)[g]?=some (.arr [aB c]):=by rw[yE o];exact l
 cases c
 .simp [go_sem,i]
  try rfl
 .simp [go_sem,i]
  try rfl
theorem qnT(ts s tb es n){mu g xb}(j:mu[g]?=some (.arr [.ptr xb 0]))(hx:mu[xb]?=some (.arr (cIn ts tb s)))(i:mu[tb]?=some (.mp (eSet es))) :
  qA qc 76 [eNd n,.ptr g 0] mu fun e m=>e = .ret (.tup [])/\m=mu.set tb (.mp (eSet (setK n.name true es))):=by
 refine qSW call76 func76 rfl {} ?_;have l:tb<mu.length:=(qi.1 i).1;simp[go_sem];refine cL zKr ?_;have o:=updS i n.name;simp[go_sem,j,hx];refine pM _ o ?_;simp[go_sem]
end YZ
namespace YA
open YM YS YF P1 Y1 Y9 Y10 YX YZ
def vN(k:Int):tC:=⟨#[118]⟩++jv k
theorem KP(k)(g : -9223372036854775808<=k)(i:k<=9223372036854775807):(jv k).size<=21:=by
 have:=Lib.itoa_length_le k g i;unfold jv;simpa[ByteArray.size] using this
def yD(ts:TS)(es:List (tC×Bool))(nm:tC):Bool:=decide (getK nm es≠some true)&&decide (means ts nm=[])
def zA(ts:TS)(es:List (tC×Bool)):Nat->Int->Int
 | 0,k=>k+1
 |f+1,k=>if yD ts es (vN (k+1))=true then k+1 else zA ts es f (k+1)
theorem qnU{mu tb es}(i:mu[tb]?=some (.mp (eSet es)))(nm):yv qc mu 141 (.mp tb) (aS nm) false=some (aB (decide (getK nm es=some true))):=by
 have:=keyS.look (et:=4) (t:=141) zSi (mu:=mu) (m := .mp tb) (venc:=aB) (es:=es) (by simp only[jV,i]) (k:=nm) trivial (fun _ _=>trivial) (z:=aB false) zSi false;refine Eq.trans ?_ (this.trans ?_)
 .rfl
 .cases getK nm es with
  |none=>rfl
  |some b=>cases b<;>rfl
theorem qnV{mu:Mu}{b c}(h:mu[b]?=some c):mu.set b c=mu:=by
 apply List.ext_getElem?;intro i;by_cases e:b=i
 .subst e
  rw[qL (qi.1 h).1,h]
 .rw [yE e]
theorem qbG(ts)(h:okTS ts)(s:ISt)(F:Nat)(hs:0<=s.last/\s.last+F<=1000000000)(tb es)(J:∃ j,1<=j/\j<=F/\yD ts es (vN (s.last+j))=true){mu xb}(hx:mu[xb]?=some (.arr (cIn ts tb s)))(P:mu[tb]?=some (.mp (eSet es))) :
  qA qc 170 [.ptr xb 0] mu fun e m=>e = .ret (aS (vN (zA ts es F s.last)))/\m=mu.set xb (.arr (cIn ts tb ⟨zA ts es F s.last,s.sM⟩)):=by
 refine qSW call170 func170 rfl {} ?_;have T:xb<mu.length:=(qi.1 hx).1;have a0:tb≠xb:=fun e=>by rw[e,hx]at P;cases P
 simp[go_sem];generalize hR:zA ts es F s.last=R;refine tS (fun m U=>∃ l:Int,0<=l/\l+m<=1000000000/\U.tm 0 = .ptr xb 0/\U.mu=mu.set xb (.arr (cIn ts tb ⟨l,s.sM⟩))/\zA ts es m l=R/\∃ j:Nat,1<=j/\j<=m/\yD ts es (vN (l+j))=true) F ?_ ?_
 .refine ⟨s.last,hs.1,hs.2,zSi,?_,hR,J⟩
  simp only[go_sem,qB,st0];rw[show cIn ts tb ⟨s.last,s.sM⟩=cIn ts tb s from rfl];exact(qnV hx).symm
 .rintro m U ⟨l,a6,a7,t,hm,hI,j,a8,a9,p⟩
  obtain⟨m,rfl⟩:∃ m',m=m'+1:=⟨m-1,zOm⟩;have w1:qp.wrap (l+1)=l+1:=zWr;have r:∀ c,(mu.set xb c)[xb]?=some c:=fun c=>qL T
  have a3:∀ c d,(mu.set xb c).set xb d=mu.set xb d:=fun c d=>List.set_set ..
  have a4:∀ c,(mu.set xb c)[tb]?=some (.mp (eSet es)):=fun c=>by rw[yE (fun e=>a0 e.symm)];exact P
  have aa:=KP (l+1) zOm zOm;have C:1+(jv (l+1)).size<=9223372036854775807:=zOm;simp[go_sem,t,hm,r,a3,w1];refine pL (itoaU (l+1) zOm zOm) (.zs .nil) ?_;simp[go_sem,t,r,C];rw[show (⟨#[118]⟩:tC)++jv (l+1)=vN (l+1) from rfl];generalize i:vN (l+1)=nm;have I:=fun c=>qnU (a4 c) nm
  simp[go_sem]at I;refine pM _ (I _) ?_;have g:yD ts es nm=false->zA ts es m (l+1)=R/\∃ j:Nat,1<=j/\j<=m/\yD ts es (vN (l+1+j))=true:=fun hn=>by
   simp only[zA,i,hn]at hI;refine⟨zUs hI,j-1,?_,zOm,?_⟩
   .have:j≠1:=fun e=>by rw[e,show l+((1:Nat):Int)=l+1 by omega,i,hn]at p;cases p
    omega
   .rw [show l+1+((j-1:Nat):Int)=l+j by omega];exact p
  by_cases hg:getK nm es=some true
  case pos =>
   obtain⟨a1,a2⟩:=g (by simp[yD,hg]);simp[go_sem,hg];refine Keep.loop m zOm ⟨l+1,zOm,zOm,zS1 t,zSi,a1,a2⟩
  case neg =>
   simp[go_sem,t,r,hg];refine pL (Kb ts h nm) (.zk (zq ts) (.zs .nil)) ?_;by_cases o:means ts nm=[]
   .have a5:R=l+1:=by
     rw[<-hI];simp[zA,i,yD,hg,o]
    subst a5;simp[go_sem,o];rw[i]
    try rfl
   .obtain ⟨a1,a2⟩:=g (by simp[yD,o])
    simp[go_sem,o];refine Keep.loop m zOm ⟨l+1,zOm,zOm,zS1 t,zSi,a1,a2⟩
end YA
namespace YB
open YM YF P1 Y1 Y6 Y9 Y10 YX YZ YA
section
variable {es:IEnv}{mu:Mu}{b xb:Nat}
def qm(ts:TS)(es:List (tC×Bool)):Nat:=es.length+ts.sA.length+3*ts.sS.length+1
def renI(ts:TS)(es:List (tC×Bool))(env:IEnv)(nm:tC)(body:Bool)(s:ISt):(IEnv×tC)×ISt:=
 if body=true\/means ts nm≠[] then
  ((setK nm ⟨none,0,vN (zA ts es (qm ts es) s.last)⟩ (delK nm env),vN (zA ts es (qm ts es) s.last)),⟨zA ts es (qm ts es) s.last,s.sM⟩)
 else ((delK nm env,nm),s)
theorem Zk{g J}[DecidableEq g]{k v}:∀{es},(es.map Prod.fst).Nodup->∀{x:g×J},x∈setK k v es↔x=(k,v)\/(x∈es/\x.1≠k)
 | [],_,x=>by simp[setK]
 |e :: es,h,x=>by
  rw[yi,vy]at h;unfold setK;by_cases i:k=e.1
  .rw [if_pos i,qv,qv]
   constructor
   .grind
   grind
  .rw [if_neg i,qv,qv,Zk h.2]
   constructor
   .grind
   grind
theorem ua{g m i}(h:g i=true):(cutM g m 0)[i]?=m[i]?:=by
 simp_all[jB,yb,if_true]
theorem qnW{x}:x∈encK aS eIV es↔∃ y,y∈es/\(aS y.1,eIV y.2)=x:=qk
theorem KQ(h:(es.map Prod.fst).Nodup):((encK aS eIV es).map Prod.fst).Nodup:=by
 have e:(encK aS eIV es).map Prod.fst=(es.map Prod.fst).map aS:=by simp[encK]
 grind
theorem qnX{fs}(g:mu[b]?=some (.md (encK aS eIV es)))(i:(es.map Prod.fst).Nodup)(j:(fs.map Prod.fst).Nodup)(l:∀ x,x∈es↔x∈fs):Rd mu (.mp b) (eEnv fs):=by
 refine Rd.mds g (KQ i) (KQ j) (fun x=>?_) (fun x hx=>?_)
 .grind
 .obtain ⟨y,_,rfl⟩:=qnW.1 hx
  grind [HF.sc,qlF]
theorem updE(i:mu[b]?=some (.mp (encK aS eIV es)))(nm v) :
  jI qc mu 149 (.mp b) (aS nm) (eIV v)=some (mu.set b (.mp (encK aS eIV (setK nm v es)))):=
 keyS.update (et:=215) (t:=149) zSi (mu:=mu) (b:=b) (venc:=eIV) (es:=es) i (k:=nm) (v:=v) trivial (fun _ _=>trivial)
theorem qbH(i:mu[b]?=some (.md (encK aS eIV es)))(nm v) :
  jI qc mu 149 (.mp b) (aS nm) (eIV v)=some (mu.set b (.md (encK aS eIV (setK nm v es)))):=
 keyS.updateD (et:=215) (t:=149) zSi (mu:=mu) (b:=b) (venc:=eIV) (es:=es) i (k:=nm) (v:=v) trivial (fun _ _=>trivial)
structure But (xb:Nat) (mu m:Mu):Prop where
 len:mu.length<=m.length
 same:∀ i,i<mu.length->i≠xb->m[i]?=mu[i]?
theorem But.trans{a b c}(h:But xb a b)(k:But xb b c):But xb a c:=⟨zG h.len k.len,fun i g j=>(k.same i (Nat.lt_of_lt_of_le g h.len) j).trans (h.same i g j)⟩
theorem But.app(xb mu l):But xb mu (mu++l):=⟨zSp,fun i g _=>qJ g⟩
theorem cB(xb mu c):But xb mu (mu.set xb c):=⟨zSp,fun i j g=>yE (fun e=>g e.symm)⟩
theorem But.setN{m}(h:But xb mu m){j}(o:mu.length<=j)(c):But xb mu (m.set j c):=⟨by simpa using h.len,fun i g l=>by rw[zGl];exact h.same i g l⟩
theorem But.cut{m}(h:But xb mu m){g}(hg:∀ i,i<mu.length->g i=true):But xb mu (cutM g m 0):=⟨by rw[jG];exact h.len,fun i j l=>by rw[ua (hg i j)];exact h.same i j l⟩
theorem qnY(a):(aArg a).one=true:=by cases a<;>rfl
theorem qnZ(ts)(h:okTS ts)(s:ISt)(es)(hs:0<=s.last/\s.last+(qm ts es:Nat)<=1000000000)(tb)(aa:∃ j,1<=j/\j<=qm ts es/\yD ts es (vN (s.last+j))=true)(env)(hk:(env.map Prod.fst).Nodup)(nm body)
  {mu} {xb} (hx:mu[xb]?=some (.arr (cIn ts tb s))) (ht:mu[tb]?=some (.mp (eSet es))) :
  qA qc 127 [.ptr xb 0,eEnv env,aS nm,aB body] mu fun e m=>e = .ret (.tup [eEnv (renI ts es env nm body s).1.1,aS (renI ts es env nm body s).1.2])/\But xb mu m/\m[xb]?=some (.arr (cIn ts tb (renI ts es env nm body s).2)):=by
 refine fU ?_;refine qSW call127 func127 rfl {} ?_;have az:xb<mu.length:=(qi.1 hx).1;have ah:tb<mu.length:=(qi.1 ht).1;have ai:tb≠xb:=fun e=>by grind
 simp[go_sem];obtain⟨B,hB⟩:∃ B,B=encK aS eIV env:=⟨_,rfl⟩;have b0:B.length=env.length:=by rw[hB];simp
 rw[<-hB];refine qj.seen env.length (fun seen U=>U.tm 0 = .ptr xb 0/\U.tm 2=aS nm/\U.tm 3=aB body/\U.tm 10 = .mp mu.length/\U.tm 16 = .ptr (mu.length+1) 0/\But xb mu U.mu/\mu.length+1<U.mu.length/\U.mu[xb]?=mu[xb]?/\U.mu[mu.length+1]?=some (.it B seen) /\
  ∃ o:IEnv,U.mu[mu.length]?=some (.mp (encK aS eIV o))/\(o.map Prod.fst).Nodup/\∀ x,x∈o↔∃ i,i∈seen/\env[i]?=some x) ?_ ?_
 .simp_all [go_sem,But.app,qJ]
 .rintro seen U b1 b2 ⟨e0,e2,e3,p,a5,R,hl,aj,ak,o,ab,C,I⟩
  simp[go_sem,a5];refine⟨mu.length+1,B,seen,rfl,ak,fun i e hi al=>?_,fun ax=>?_⟩
  .have J:∃ y,env[i]?=some y/\e=(aS y.1,eIV y.2):=by
    rw[hB,zn,jS]at hi;obtain⟨y,J,rfl⟩:=hi
    grind
   obtain⟨⟨k,va,vz,vn⟩,J,rfl⟩:=J;have an:i<env.length:=(qi.1 J).1;have a6:∀(c:Cell)(l:List Cell),(U.mu.set (mu.length+1) c++l)[mu.length]?=some (.mp (encK aS eIV o)):=fun c l=>by
    grind
   have hu:=fun c l=>updE (a6 c l) k ⟨va,vz,vn⟩
   simp[go_sem,p,a5,hi,hl,qnY];refine pM _ (hu _ _) ?_;generalize hM:List.set (U.mu.set (mu.length+1) (Cell.it B (seen++[i]))++[Cell.arr [aArg va,aI vz,aS vn]]) mu.length (.mp (encK aS eIV (setK k ⟨va,vz,vn⟩ o)))=M;have b3:M.length=U.mu.length+1:=by rw[<-hM];simp
   have ao:∀ j,j<U.mu.length->j≠mu.length->j≠mu.length+1->M[j]?=U.mu[j]?:=fun j h1 h2 h3=>by
    grind
   have aq:M[mu.length]?=some (.mp (encK aS eIV (setK k ⟨va,vz,vn⟩ o))):=by
    grind
   have b4:M[mu.length+1]?=some (.it B (seen++[i])):=by
    grind
   have a7:∀ v,(k,v)∈o->False:=fun v hm=>by
    obtain⟨j,P,he⟩:=(I _).1 hm;have h1:(env.map Prod.fst)[j]?=some k:=by rw[zn,he];rfl
    have h2:(env.map Prod.fst)[i]?=some k:=by rw[zn,J];rfl
    have b5:j<(env.map Prod.fst).length:=(qi.1 h1).1
    grind [List.getElem?_inj]
   simp[go_sem];refine⟨i,an,al,aC ?_⟩;refine⟨zS1 e0,zS1 e2,zS1 e3,zS1 p,zS1 a5,?_,by grind [qB],?_,by simp[go_sem, *],_,zVs aq,u9 C,fun x v=>?_⟩
   .simp only[go_sem,qB]
    exact⟨zOm,fun j P hn=>by rw[ao j zOm zOm zOm];exact R.same j P hn⟩
   .grind [qB]
   .rw [Zk C,I]
    constructor
    .rintro (e|⟨⟨j,P,he⟩,_⟩)
     .exact ⟨i,zSp,by rw[J,e]⟩
     .exact ⟨j,zP1 P,he⟩
    .rintro ⟨j,P,he⟩
     rcases qM.1 P with P|P
     .refine .inr ⟨⟨j,P,he⟩,fun e=>?_⟩
      simp only at e;subst e;exact a7 v ((I _).2 ⟨j,P,he⟩)
     .rw [qY]at P
      subst P;rw[J]at he;exact .inl (Option.some.inj he).symm
  .simp [go_sem,e2,p]
   have ar:∀ x,x∈o↔x∈env:=fun x=>by
    grind [qZ,List.mem_iff_getElem?,qi]
   refine keyS.delete (et:=215) (t:=149) zSi ab trivial (fun _ _=>trivial) ?_;have T:=ZL (k:=nm) C;have a8:∀ x,x∈delK nm o↔x∈delK nm env:=fun x=>by grind [Xx]
   have ad:mu.length<U.mu.length:=zOm;have au:∀ c,(U.mu.set mu.length c)[xb]?=some (.arr (cIn ts tb s)):=fun c=>by rw[zGl,aj];exact hx
   have av:∀ c,(U.mu.set mu.length c)[tb]?=some (.mp (eSet es)):=fun c=>by rw[zGl,R.same tb ah ai];exact ht
   have aw:∀ c,But xb mu (U.mu.set mu.length c):=fun c=>R.setN (qo _) c
   have hD:∀ c,(U.mu.set mu.length c)[mu.length]?=some c:=fun c=>qL ad
   generalize hM:U.mu.set mu.length (.md (encK aS eIV (delK nm o)))=M;have a0:M[xb]?=some (.arr (cIn ts tb s)):=by rw[<-hM];exact au _
   have ae:M[tb]?=some (.mp (eSet es)):=by rw[<-hM];exact av _
   have a9:But xb mu M:=by grind
   have a1:M[mu.length]?=some (.md (encK aS eIV (delK nm o))):=by grind
   have af:mu.length<M.length:=(qi.1 a1).1;have fin:∀(m:Mu)(a2 fs:IEnv)(a3:tC)(s1:ISt),But xb mu m->m[mu.length]?=some (.md (encK aS eIV a2))->(a2.map Prod.fst).Nodup->(fs.map Prod.fst).Nodup->(∀ x,x∈a2↔x∈fs)->m[xb]?=some (.arr (cIn ts tb s1))->((fs,a3),s1)=renI ts es env nm body s ->
     ∃(g:Nat->Bool) (x:AV),Gv m g (.tup [.mp mu.length,aS a3]) x/\x = .tup [eEnv (renI ts es env nm body s).1.1,aS (renI ts es env nm body s).1.2]/\But xb mu (cutM (fun i=>!g i) m 0)/\(cutM (fun i=>!g i) m 0)[xb]?=some (.arr (cIn ts tb (renI ts es env nm body s).2)):=by
    intro m a2 fs a3 s1 hb hd n1 n2 hm b6 e;rw[<-e];refine⟨fun i=>i == mu.length,.tup [eEnv fs,aS a3],.rd _ _ (.tup _ _ rfl fun k x y hx J=>?_),rfl,hb.cut fun i hi=>zSo,?_⟩
    .match k with
     | 0 =>
      simp at hx J;subst hx;subst J;exact qnX (by rw[ua zSp];exact hd) n1 n2 hm
     | 1 =>
      simp at hx J;subst hx;subst J;exact .zsc _
     |k+2=>simp at hx
    grind [ua]
   have ay:∀(b7:St)(K:qU->St->Prop),True:=fun _ _=>trivial
   by_cases hb:body=true
   .subst hb
    simp[go_sem,e0,e3];refine fZ (qbG ts h s (qm ts es) hs tb es aa a0 ae) ?_ (by rintro r m ⟨e,_⟩;cases e);rintro r m ⟨e,rfl⟩;cases e;have hu:=qbH (mu:=M.set xb (.arr (cIn ts tb ⟨zA ts es (qm ts es) s.last,s.sM⟩))) (b:=mu.length) (by rw[zGl];exact a1) nm ⟨none,0,vN (zA ts es (qm ts es) s.last)⟩;simp[go_sem,e2,p];refine pM _ hu ?_;simp[go_sem,p];refine(fin _ _ _ _ ⟨zA ts es (qm ts es) s.last,s.sM⟩ ((a9.trans (cB xb M _)).setN (qo _) _) (qL (zUs af)) (u9 T) (u9 (ZL hk)) (fun x=>by rw[Zk T,Zk (ZL hk),a8]) (by rw[zGl,qL zOm];rfl) ?_);simp[renI]
   .have hb:body=false:=by simpa using hb
    subst hb;simp[go_sem,e0,e2,e3,a0];refine pL (Kb ts h nm) (.zk (zq ts) (.zs .nil)) ?_;by_cases a4:means ts nm=[]
    .simp [go_sem,e2,p,a0,a4]
     refine(fin M _ _ _ _ a9 a1 T (ZL hk) a8 a0 ?_);simp[renI,a4]
    .have ag:0<(means ts nm).length:=List.length_pos_iff.2 a4
     simp[go_sem,e0,ag];refine fZ (qbG ts h s (qm ts es) hs tb es aa a0 ae) ?_ (by rintro r m ⟨e,_⟩;cases e);rintro r m ⟨e,rfl⟩;cases e;have hu:=qbH (mu:=M.set xb (.arr (cIn ts tb ⟨zA ts es (qm ts es) s.last,s.sM⟩))) (b:=mu.length) (by rw[zGl];exact a1) nm ⟨none,0,vN (zA ts es (qm ts es) s.last)⟩;simp[go_sem,e2,p];refine pM _ hu ?_;simp[go_sem,p];refine(fin _ _ _ _ ⟨zA ts es (qm ts es) s.last,s.sM⟩ ((a9.trans (cB xb M _)).setN (qo _) _) (qL (zUs af)) (u9 T) (u9 (ZL hk)) (fun x=>by rw[Zk T,Zk (ZL hk),a8]) (by rw[zGl,qL zOm];rfl) ?_);simp[renI,a4]
end
end YB
namespace Q9
open Y1
def qbI(nm:tC)(p:Int):Nd := .mk 1 nm 0 [] p
end Q9
namespace PA
open P1 P2 Y1 Y2 Y9 Y15 Y16 Q6
section
variable {inn:Bool}{c c':Ck}{s s':Scp}
def wD(nm:tC)(n:Nd):Prop:=anyN (fun n=>decide (n.name=nm)) n=true
theorem qbJ{p}:∀{ks},um p ks=true↔∃ k,k∈ks/\anyN p k=true
 | []=>by simp[um]
 |k :: ks=>by
  simp only[um,Qu,qbJ (ks:=ks),qv];constructor
  .rintro (h|⟨x,hx,h⟩)
   .exact ⟨k,.inl rfl,h⟩
   .exact ⟨x,.inr hx,h⟩
  .rintro ⟨x,rfl|hx,h⟩
   .exact .inl h
   .exact .inr ⟨x,hx,h⟩
theorem qn0(n):wD n.name n:=by
 unfold wD;rw[UR];simp
theorem qn1{n k nm}(g:k∈n.sD)(h:wD nm k):wD nm n:=by
 unfold wD at h⊢;rw[UR,Qu]
 grind [qbJ]
def lookS(nm:tC)(s:Scp):Option Kd:=(jq nm s).head?.map Prod.snd
theorem qn2(nm):lookS nm []=none:=rfl
theorem uu(nm v)(s:Scp):lookS nm (v :: s)=if v.1=nm then some v.2 else lookS nm s:=by
 grind [lookS,jq]
theorem Zl(c s nm pos):ju c s nm pos=match lookS nm s with
  |some k => .ok (some k)
  |none=>match means c.ts nm with
   | [] => .error (40,pos)
   | [k] => .ok (some k)
   |_ => .error (44,pos):=by
 grind [ju,lookS,jq]
theorem qbK{n n'}(j:n'.op=n.op)(l:n'.name=n.name)(r:n'.n=n.n)(hp:n'.pos=n.pos)
  (t:zU c' n.op n.name=zU c n.op n.name) (I:n.op=1->ju c s n.name n.pos=ju c' s' n.name n.pos) (o:c'.ts.sT=c.ts.sT) (g:zt c' n.name=zt c n.name)
  (p:c'.ts.sS.length=c.ts.sS.length) (i:n'.sD.length=n.sD.length)
  (hA:n.op=47->∀ ps,zY c s n.pos ps n.sD=zY c' s' n.pos ps n'.sD)
  (hB:(n.op=15\/n.op=45\/n.op=46)->∀ inn,ym c s inn n.name n.pos n.sD=ym c' s' inn n.name n.pos n'.sD)
  (C:¬n.op=1->¬n.op=47->¬(n.op=15\/n.op=45\/n.op=46)->∀ inn,qX c s inn n.sD=qX c' s' inn n'.sD):exam c s inn n=exam c' s' inn n':=by
 rw[yP,yP,j,l,r,hp,t,o,g,p,i];by_cases a:(inn&&zU c n.op n.name)=true
 .rw [if_pos a,if_pos a]
 rw[if_neg a,if_neg a];by_cases b:n.op=1
 .grind
 rw[if_neg b,if_neg b];by_cases d:n.op=47
 .simp_all
 rw[if_neg d,if_neg d];by_cases e:n.op=15\/n.op=45\/n.op=46
 .rw [if_pos e,if_pos e];exact hB e _
 rw[if_neg e,if_neg e,C b d e]
theorem qbL(f):∀{ks},(∀ k,k∈ks->exam c s inn k=exam c' s' inn (f k))->qX c s inn ks=qX c' s' inn (ks.map f)
 | [],_=>rfl
 |k :: ks,h=>by
  simp only[yi,qX];rw[h k (zj ..),qbL f fun g i=>h g (za _ i)]
theorem qbM{pos}(f):∀{ks ps},(∀ k,k∈ks->exam c s true k=exam c' s' true (f k))->zY c s pos ps ks=zY c' s' pos ps (ks.map f)
 | [],ps,_=>by cases ps<;>rfl
 |k :: ks,[],_=>rfl
 |k :: ks,p :: ps,h=>by
  simp only[yi,zY];rw[h k (zj ..),qbM f (ps:=ps) fun g i=>h g (za _ i)]
theorem UY{ks}(h:∀ k,k∈ks->exam c s inn k=exam c' s' inn k):qX c s inn ks=qX c' s' inn ks:=by
 have:=qbL (c:=c) (c':=c') (s:=s) (s':=s') (inn:=inn) id (ks:=ks) h
 rwa[List.map_id]at this
theorem qbN{pos ks ps}(h:∀ k,k∈ks->exam c s true k=exam c' s' true k):zY c s pos ps ks=zY c' s' pos ps ks:=by
 have:=qbM (c:=c) (c':=c') (s:=s) (s':=s') (pos:=pos) id (ks:=ks) (ps:=ps) h
 rwa[List.map_id]at this
structure wE (c c':Ck):Prop where
 sT:c'.ts.sT=c.ts.sT
 sS:c'.ts.sS=c.ts.sS
 sA:c'.ts.sA=c.ts.sA
 calls:c'.calls=c.calls
 timed:c'.timed=c.timed
theorem wE.refl(c):wE c c:=⟨rfl,rfl,rfl,rfl,rfl⟩
theorem wE.callee(h:wE c c')(nm):zt c' nm=zt c nm:=by
 unfold zt;rw[h.sT,h.calls]
theorem wE.time(h:wE c c')(op nm):zU c' op nm=zU c op nm:=by
 unfold zU;rw[h.callee,h.timed]
theorem wE.means(h:wE c c')(nm):means c'.ts nm=means c.ts nm:=by
 unfold P1.means;rw[h.sA,h.sS]
theorem qbO(j:wE c c'):∀ m n s s' inn,szN n<=m->(∀ nm,wD nm n->lookS nm s=lookS nm s')->exam c s inn n=exam c' s' inn n
 | 0,n,_,_,_,o,_=>by obtain⟨op,nm,i,ks,p⟩:=n;simp[szN]at o
 |m+1,n,s,s',inn,o,h=>by
  have l:∀ k,k∈n.sD->∀(s s':Scp)(inn:Bool),(∀ nm,wD nm k->lookS nm s=lookS nm s')->exam c s inn k=exam c' s' inn k:=fun k l s s' inn t =>
   qbO j m k s s' inn (zW1 (yn l)) t
  have r:∀ k,k∈n.sD->∀ nm,wD nm k->lookS nm s=lookS nm s':=fun k l nm C=>h nm (qn1 l C)
  refine qbK rfl rfl rfl rfl (j.time _ _) (fun _=>?_) j.sT (j.callee _) (by rw[j.sS]) rfl (fun _ J=>qbN fun k g=>l k g s s' true (r k g)) (fun _ inn=>?_) (fun _ _ _ inn=>UY fun k g=>l k g s s' inn (r k g))
  .rw [Zl,Zl,h _ (qn0 n),j.means]
  .cases I:n.sD with
   |nil=>rfl
   |cons k ks =>
    grind [ks,ym,zj,qX,UY,za,uu]
def wf(ts:TS)(g:List (tC×Nd)):TS:=⟨ts.sS,ts.sA,ts.sT,g⟩
theorem qn3{J}(g)(l:List J)(i):(repL g l)[i]?=(l[i]?).map fun x=>(l.take i).any fun y=>g x y:=by
 grind [mQ,qz,List.getElem?_eq_none,Qj]
theorem qbP{J}(g)(l:List J)(i):repB g l i=match l[i]? with|some x=>[(l.take i).any fun y=>g x y] | none=>[]:=by
 unfold repB;rw[List.take_add_one,qn3,List.drop_append];by_cases h:i<l.length
 .rw [qz h,List.length_take,Qj,Nat.min_eq_left zOm,List.drop_of_length_le zSo]
  simp
 grind
def binB(op:Int):Bool:=decide (op=15)||decide (op=45)||decide (op=46)
end
end PA
namespace YC
open P1 Y1 YX YZ YA YB PA
section
variable {env:IEnv}{s:ISt}{es:List (tC×Bool)}{F:Nat}{ts:TS}
abbrev XR(J:Type):=Except Dg (J×ISt)
def yV(E:Nd->ISt->XR (Nd×Int)):List (tC×Int)->List Nd->IEnv->ISt->XR IEnv
 |p :: g,k :: ks,own,s=>match E k s with
  | .error e => .error e
  | .ok ((i,m),j)=>yV E g ks (setK p.1 ⟨some i,m,⟨#[]⟩⟩ own) j
 |_,_,own,s => .ok (own,s)
def yo(E:IEnv->Nd->ISt->XR (Nd×Int))(R:IEnv->tC->ISt->(IEnv×tC)×ISt)(bin:Bool):Nat->IEnv->tC->List Nd->ISt->XR (tC×List Nd×Int)
 |_,_,nm,[],s => .ok ((nm,[],0),s)
 |i,env,nm,k :: ks,s =>
  let r:=if bin=true/\i=1 then R env nm s else ((env,nm),s)
  match E r.1.1 k r.2 with
  | .error e => .error e
  | .ok ((o,m),p)=>match yo E R bin (i+1) r.1.1 r.1.2 ks p with
   | .error e => .error e
   | .ok ((g,j,t),l) => .ok ((g,o :: j,m+t),l)
def vK{J i:Type}(q:XR J)(g:J->ISt->XR i):XR i:=
 match q with
 | .error e => .error e
 | .ok (a,s)=>g a s
theorem Zm{J i q}{g:J->ISt->XR i}{r}(h:vK q g = .ok r):∃ a s,q = .ok (a,s)/\g a s = .ok r:=by
 unfold vK at h;split at h
 .cases h
 .exact ⟨_,_,rfl,h⟩
def expI(ts:TS)(es:List (tC×Bool)):Nat->IEnv->Nd->Bool->ISt->XR (Nd×Int)
 | 0,_,_,_,_ => .error (2,0)
 |f+1,env,n,i,s =>
  if s.sM+1<=4000 then
   if n.op=1 then vt env n (payS 1 s)
   else if n.op=47 then match ts.sT.find? fun p=>decide (p.name=n.name) with
    |none => .error (2,0)
    |some p=>vK (yV (fun k s=>expI ts es f env k i s) p.params n.sD [] (payS 1 s)) fun own g=>expI ts es f own p.body true g
   else vK (yo (fun env k s=>expI ts es f env k i s) (fun env nm s=>renI ts es env nm i s) (binB n.op) 0 env n.name n.sD (payS 1 s)) fun r g => .ok ((.mk n.op r.1 n.n r.2.1 n.pos,1+r.2.2),g)
  else .error (2,0)
def yQ(ts:TS)(n:Nd):Prop:=∀ x,x∈preN n->x.op=47->∃ p,(ts.sT.find? fun p=>decide (p.name=x.name))=some p/\p.params.length=x.sD.length
theorem qbQ{ks k x}(g:k∈ks)(hx:x∈preN k):x∈zz ks:=by
 induction ks with
 |nil=>simp at g
 |cons a l i =>
  simp only[zz,qM];rcases qv.1 g with rfl|g
  .exact .inl hx
  grind
theorem UZ{n k x}(g:k∈n.sD)(hx:x∈preN k):x∈preN n:=by
 grind [ur,za,qbQ]
theorem j8(n):n∈preN n:=by rw[ur];exact zj ..
theorem yQ.kid{n k}(h:yQ ts n)(g:k∈n.sD):yQ ts k:=fun x hx=>h x (UZ g hx)
def pot(F:Nat)(s:ISt):Int:=s.sM*F-s.last
structure StOk (F:Nat) (s:ISt):Prop where
 l0:0<=s.last
 c0:0<=s.sM
 c1:s.sM<=4000
 p:0<=pot F s
theorem StOk.last(h:StOk F s):s.last<=4000*F:=by
 have g:s.sM*F<=4000*F:=Int.mul_le_mul_of_nonneg_right h.c1 zOm;have:=h.p
 grind [pot]
structure zp (env:IEnv):Prop where
 nd:(env.map Prod.fst).Nodup
 sz:∀ e,e∈env->0<=e.2.size/\e.2.size<=4000
theorem zp.nil:zp []:=⟨zSp,fun e g=>by simp at g⟩
theorem zp.set(h:zp env){k v}(i:0<=v.size/\v.size<=4000):zp (setK k v env):=
 ⟨u9 h.nd,fun e g=>by
  rcases (Zk h.nd).1 g with rfl|⟨g,_⟩
  .exact i
  .exact h.sz e g⟩
theorem zp.del(h:zp env){k}:zp (delK k env):=⟨ZL h.nd,fun e g=>h.sz e ((Xx h.nd).1 g).1⟩
theorem YN{nm body}(h:zp env):zp (renI ts es env nm body s).1.1:=by
 unfold renI;split
 .exact h.del.set ⟨zSp,zSp⟩
 .exact h.del
theorem U0(ts es):∀ f k,k<zA ts es f k/\zA ts es f k<=k+f+1
 | 0,k=>by grind [zA]
 |f+1,k=>by
  simp only[zA];have:=U0 ts es f (k+1);omega
theorem KR{ts es}:∀{f k},(∃ j:Nat,1<=j/\j<=f/\yD ts es (vN (k+j))=true)->zA ts es f k<=k+f
 | 0,k,⟨j,g,i,_⟩=>zOm
 |f+1,k,⟨j,g,i,l⟩=>by
  simp only[zA];split
  .omega
  .rename_i o
   have p:j≠1:=fun e=>by grind
   have:=KR (ts:=ts) (es:=es) (f:=f) (k:=k+1) ⟨j-1,zOm,zOm,by grind⟩;omega
def Free(ts:TS)(es:List (tC×Bool)):Prop:=∀ l:Int,0<=l->∃ j:Nat,1<=j/\j<=qm ts es/\yD ts es (vN (l+j))=true
theorem YO(g:Free ts es){env nm body s}(i:0<=s.last):0<=(renI ts es env nm body s).2.last/\(renI ts es env nm body s).2.last<=s.last+(qm ts es:Nat)/\(renI ts es env nm body s).2.sM=s.sM:=by
 unfold renI;split
 .have l:=U0 ts es (qm ts es) s.last
  have j:=KR (g s.last i);refine⟨?_,j,rfl⟩
  grind
 .exact ⟨i,by grind,rfl⟩
structure Gos (F:Nat) (s s':ISt) (z:Int):Prop where
 l0:0<=s'.last
 c1:s'.sM<=4000
 z0:0<=z
 cz:s.sM+z<=s'.sM
 p:pot F s<=pot F s'
theorem Gos.ok{s' z}(g:Gos F s s' z)(h:StOk F s):StOk F s':=⟨g.l0,by have:=g.cz;have:=g.z0;have:=h.c0;omega,g.c1,zW2 g.p h.p⟩
theorem Zn(F s n):pot F (payS n s)=pot F s+n*F:=by
 grind [pot,payS,Int.add_mul]
theorem wF(h:StOk F s){n}(g:0<=n)(i:s.sM+n<=4000):Gos F s (payS n s) n:=
 ⟨h.l0,i,g,vS _,by rw[Zn];have:0<=n*(F:Int):=Int.mul_nonneg g zOm;omega⟩
theorem qn4{n n' s' z}(h:StOk F s)(j:zp env)(o:s.sM+1<=4000)(e:vt env n (payS 1 s) = .ok ((n',z),s')):Gos F s s' z:=by
 have hp:=wF h (n:=1) zOm o;unfold vt at e;cases hg:getK n.name env with
 |none=>grind
 |some v =>
  rw[hg]at e;have r:=j.sz _ ((Za j.nd).1 hg);obtain⟨t,l,I⟩:=v;cases t with
  |none=>cases e;exact hp
  |some a =>
   simp only at e;split at e
   .rename_i C
    have i:0<=l/\l<=4000:=r;cases e;have g:=wF (hp.ok h) i.1 C;exact⟨g.l0,g.c1,i.1,zW2 g.cz hp.cz,zW2 g.p hp.p⟩
   .cases e
theorem U1{E}:∀{ks ps own i s s'},(∀ k n' z s s',k∈ks->StOk F s->E k s = .ok ((n',z),s')->Gos F s s' z)->StOk F s->zp own ->
  yV E ps ks own s = .ok (i,s')->zp i/\Gos F s s' 0
 | [],ps,own,i,s,s',_,h,j,e=>by
  have e:Except.ok (own,s)=(Except.ok (i,s'):XR IEnv):=by cases ps<;>exact e
  cases e;exact⟨j,h.l0,h.c1,zOm,zOm,vS _⟩
 |k :: ks,[],own,i,s,s',_,h,j,e=>by
  cases e;exact⟨j,h.l0,h.c1,zOm,zOm,vS _⟩
 |k :: ks,p :: ps,own,i,s,s',o,h,j,e=>by
  simp only[yV]at e;split at e
  .cases e
  .rename_i r m s1 t
   have g:=o k r m s s1 (zj ..) h t;have C:m<=4000:=by have:=g.cz;have:=g.c1;have:=h.c0;omega
   obtain⟨I,l⟩:=U1 (fun k n' z s s' J=>o k n' z s s' (za _ J)) (g.ok h) (j.set (v:=⟨some r,m,⟨#[]⟩⟩) ⟨g.z0,C⟩) e;exact⟨I,l.l0,l.c1,zOm,by have:=g.cz;have:=g.z0;have:=l.cz;omega,zW2 g.p l.p⟩
def dueN(F:Nat)(bin:Bool)(i:Nat):Int:=if bin=true/\i<=1 then F else 0
theorem ZW(F bin i):0<=dueN F bin i:=by unfold dueN;split<;>omega
theorem U2{bin i}(h:¬(bin=true/\i=1)):dueN F bin i=dueN F bin (i+1):=by
 unfold dueN;by_cases g:bin=true
 .by_cases l:i=1
  .grind
  .by_cases j:i<=1
   .rw [if_pos ⟨g,j⟩,if_pos ⟨g,zOm⟩]
   omega
 grind
theorem qbR{E R bin}(J:∀ env nm s,0<=s.last->zp env->zp (R env nm s).1.1/\0<=(R env nm s).2.last/\(R env nm s).2.last<=s.last+(F:Int)/\(R env nm s).2.sM=s.sM) :
  ∀{ks i env nm nm' s s' j m},(∀ env k n' z s s',k∈ks->StOk F s->zp env->E env k s = .ok ((n',z),s')->Gos F s s' z)->0<=s.last->0<=s.sM->s.sM<=4000->dueN F bin i<=pot F s->zp env ->
  yo E R bin i env nm ks s = .ok ((nm',j,m),s')->0<=s'.last/\s'.sM<=4000/\0<=m/\s.sM+m<=s'.sM/\pot F s-dueN F bin i<=pot F s'
 | [],i,env,nm,nm',s,s',j,m,_,P,c0,c1,hp,T,e=>by
  cases e;have:=ZW F bin i;omega
 |k :: ks,i,env,nm,nm',s,s',j,m,U,P,c0,c1,hp,T,e=>by
  simp only[yo]at e;obtain⟨r,o⟩:∃ r,r=if bin=true/\i=1 then R env nm s else ((env,nm),s):=⟨_,rfl⟩
  rw[<-o]at e;have C:zp r.1.1/\0<=r.2.last/\r.2.sM=s.sM/\dueN F bin (i+1)<=pot F r.2/\pot F s-dueN F bin i<=pot F r.2-dueN F bin (i+1):=by
   by_cases t:bin=true/\i=1
   .rw [if_pos t]at o
    obtain⟨a1,a2,a3,a4⟩:=J env nm s P T;have d1:dueN F bin i=F:=if_pos ⟨t.1,zOm⟩;have d2:dueN F bin (i+1)=0:=zIn
    grind [pot]
   .rw [if_neg t]at o
    subst o;have d':dueN F bin i=dueN F bin (i+1)\/(bin=true/\i=1):=by
     unfold dueN;by_cases l:bin=true
     .by_cases h1:i=1
      .grind
      .left
       by_cases h0:i<=1
       .rw [if_pos ⟨l,h0⟩,if_pos ⟨l,zOm⟩]
       omega
     grind
    have a0:dueN F bin i=dueN F bin (i+1):=d'.elim id fun h=>absurd h t
    grind
  obtain⟨b1,b2,b3,b4,b5⟩:=C;split at e
  .cases e
  .rename_i k' m1 s1 h1
   have I:StOk F r.2:=⟨b2,zOm,zOm,zW1 (ZW F bin (i+1))⟩;have g:=U r.1.1 k k' m1 r.2 s1 (zj ..) I b1 h1;split at e
   .cases e
   .rename_i a5 a6 m2 s2 h2
    have:=qbR J (fun env k n' z s s' hk=>U env k n' z s s' (za _ hk)) g.l0 (zW2 g.cz g.z0) g.c1 (zW1 g.p) b1 h2;obtain⟨q1,q2,q3,q4,q5⟩:=this;cases e;have:=g.cz;have:=g.z0;have:=g.p;omega
theorem jl(ts){es}(g:Free ts es):∀(f){env n n' body s s' z},StOk (qm ts es) s->zp env->expI ts es f env n body s = .ok ((n',z),s')->Gos (qm ts es) s s' z
 | 0,_,_,_,_,_,_,_,_,_,e=>by cases e
 |f+1,env,n,n',body,s,s',z,h,I,e=>by
  simp only[expI]at e;split at e
  .rename_i J
   have hp:=wF h (n:=1) zOm J;split at e
   .grind [qn4]
   .split at e
    .split at e
     .cases e
     .rename_i p _
      .obtain ⟨own,s1,o,e⟩:=Zm e
       obtain⟨P,g1⟩:=U1 (F:=qm ts es) (fun k n' z s s' _ r t=>jl ts g f r I t) (hp.ok h) .nil o;have i:=jl ts g f (g1.ok (hp.ok h)) P e;exact⟨i.l0,i.c1,i.z0,by have:=i.cz;have:=g1.cz;have:=hp.cz;omega,by have:=i.p;have:=g1.p;have:=hp.p;omega⟩
    ·.obtain ⟨⟨j,l,m⟩,s1,o,e⟩:=Zm e
      cases e;have R:dueN (qm ts es) (binB n.op) 0<=pot (qm ts es) (payS 1 s):=by
       rw[Zn];have:=h.p;grind [dueN]
      have:=qbR (F:=qm ts es) (fun env nm s T C=>⟨YN C,YO g T⟩) (fun env k n' z s s' _ r C t=>jl ts g f r C t) hp.l0 (by have:=(hp.ok h).c0;exact this) hp.c1 R I o;obtain⟨U,q2,q3,q4,q5⟩:=this;have a0:dueN (qm ts es) (binB n.op) 0<=(qm ts es:Nat):=by grind [dueN]
      rw[Zn]at q5;have a1:0<=(j,l,m).snd.snd:=q3;have a2:(payS 1 s).sM+(j,l,m).snd.snd<=s'.sM:=q4;exact⟨U,q2,zOm,zW1 hp.cz,zOm⟩
  .cases e
end
end YC
namespace E6
open Y1 Y9 Y1 Y9 YZ YC E3
structure U3 (d:Den) (p q:Pl):Prop where
 E:d.E p=d.E q
 N:d.N p=d.N q
 F:d.F p=d.F q
theorem qn5{x op nm i ds env g}(C:op=1->zV nm env=zV nm g)
  (l:∀ j s,U3 (kD ds j) ⟨s,env⟩ ⟨s,g⟩) (p:∀ s a,(kD ds 1).F ⟨s,env++[(nm,a)]⟩=(kD ds 1).F ⟨s,g++[(nm,a)]⟩) (I:∀ s,mapX (fun d:Den=>d.E ⟨s,env⟩) ds=mapX (fun d:Den=>d.E ⟨s,g⟩) ds) (s):U3 (opD x op nm i ds) ⟨s,env⟩ ⟨s,g⟩:=by
 have o:=fun j s=>(l j s).E
 have r:=fun j s=>(l j s).N
 have J:=fun j s=>(l j s).F
 refine⟨?_,?_,?_⟩
 .show opE x op nm i ds ⟨s,env⟩=opE x op nm i ds ⟨s,g⟩
  by_cases t:op=1
  .subst t
   simp only[opE,if_true,vD,C rfl]
  .simp only[opE,if_neg t,ye,binE,jf,o,p]
 .show opN op i ds ⟨s,env⟩=opN op i ds ⟨s,g⟩
  simp only[opN,o,r]
 .show opF x op nm ds ⟨s,env⟩=opF x op nm ds ⟨s,g⟩
  simp only[opF,ye,jf,o,r,J,p,I]
theorem wG(nm env e):zV nm (env++[e])=if e.1=nm then some e.2 else zV nm env:=by
 unfold zV;rw[vR];rfl
theorem qbS(x)(R:tC->Prop):∀ m n,szN n<=m->(∀ y,y∈preN n->R y.name)->∀ env g,(∀ nm,R nm->zV nm env=zV nm g)->∀ s,U3 (den x n) ⟨s,env⟩ ⟨s,g⟩
 | 0,n,T,_=>by obtain⟨op,nm,i,ks,p⟩:=n;simp[szN]at T
 |m+1,n,T,U=>by
  intro env g t s;rw[vE];have C:∀ k,k∈n.sD->∀(env g:List (tC×Int)),(∀ nm,R nm->zV nm env=zV nm g)->∀ s,U3 (den x k) ⟨s,env⟩ ⟨s,g⟩:=fun k o =>
   qbS x R m k (zW1 (yn o)) fun y I=>U y (by rw[ur];exact za _ (qbQ o I))
  have r:∀ j,kD (n.sD.map (den x)) j=noD\/∃ k,k∈n.sD/\kD (n.sD.map (den x)) j=den x k:=fun j=>by
   unfold kD;by_cases J:j<n.sD.length
   .exact .inr ⟨n.sD[j],qq J,by simp[List.getD,J]⟩
   .exact .inl (by simp[List.getD,J])
  refine qn5 (fun _=>t _ (U n (by rw[ur];exact zj ..))) (fun j s=>?_) (fun s a=>?_) (fun s=>?_) s
  .rcases r j with h|⟨k,o,h⟩
   .rw [h];exact⟨rfl,rfl,rfl⟩
   .rw [h];exact C k o env g t s
  .rcases r 1 with h|⟨k,o,h⟩
   .rw [h];rfl
   .rw [h]
    exact(C k o _ _ (fun nm hr=>by rw[wG,wG,t nm hr]) s).F
  .have:∀ l:List Nd,(∀ k,k∈l->k∈n.sD)->mapX (fun d:Den=>d.E ⟨s,env⟩) (l.map (den x))=mapX (fun d:Den=>d.E ⟨s,g⟩) (l.map (den x)):=by
    intro l;induction l with
    |nil=>intro _;rfl
    |cons k l P =>
     intro hl;simp only[yi,mapX];rw[(C k (hl k (zj ..)) env g t s).E,P fun y I=>hl y (za _ I)]
   exact this n.sD fun k o=>o
end E6
namespace YD
open YM YF P1 P2 Y1 Y2 Y6 Y7 Y9 Y10 Y13 YX YZ YB PA YC
section
variable {mu:Mu}{b:Nat}
theorem qn6(p n):qg qc 125 [.agg (cPd p),.ip (cNd n)] (aB (decide (p.name=n.name))):=by
 refine qSV call125 func125 rfl ?_;by_cases h:p.name=n.name
 .simp [go_sem,h]
  exact .zsc _
 .simp [go_sem,h,jM h]
  exact .zsc _
def endE(ts:TS)(tb:Nat)(mu:Mu)(xb:Nat)(r:XR (Nd×Int))(e:AEnd)(m:Mu):Prop:=
 match r with
 | .ok ((n,k),s)=>e = .ret (.tup [eNd n,aI k])/\m[xb]?=some (.arr (cIn ts tb s))/\But xb mu m
 | .error d=>e = .pan (jL d.1 d.2)/\But xb mu m
def IHE(ts : TS)(es : List (tC × Bool))(tb f : Nat) : Prop := ∀(env : IEnv)(n : Nd)(i : Bool)(s : ISt)(C : Mu)(g : Nat), 4000 < s.sM + f->StOk (qm ts es) s->zp env->WfN n->yQ ts n->C[g]? = some (.arr (cIn ts tb s))->C[tb]? = some (.mp (eSet es)) ->
      qA qc 79 [.ptr g 0,eEnv env,eNd n,aB i] C (endE ts tb C g (expI ts es f env n i s))
structure M0 (ts:TS) (es:List (tC×Bool)) (tb:Nat) (mu:Mu) (xb:Nat) (n:Nd) (s:ISt) (M:Mu):Prop where
 len:M.length=mu.length+2
 x:M[xb]?=some (.arr (cIn ts tb s))
 t:M[tb]?=some (.mp (eSet es))
 n:M[mu.length]?=some (.arr (cNd n))
 r:M[mu.length+1]?=some (.arr [aI 0,aS ⟨#[]⟩,aI 0,.lst true [],aI 0])
 but:But xb mu M
theorem M0.of{ts es tb xb n s s'}(hx:mu[xb]?=some (.arr (cIn ts tb s)))(g:mu[tb]?=some (.mp (eSet es))) :
  M0 ts es tb mu xb n s' ((mu++[Cell.arr (cNd n),Cell.arr [aI 0,aS ⟨#[]⟩,aI 0,.lst true [],aI 0]]).set xb (.arr (cIn ts tb s'))):=by
 have i:xb<mu.length:=(qi.1 hx).1;have j:tb<mu.length:=(qi.1 g).1;have l:tb≠xb:=fun e=>by grind
 refine⟨zSp,qL zSo,?_,?_,?_,(But.app xb mu _).trans (cB xb _ _)⟩
 .grind
 .grind
 grind
theorem qn7(ts es tb env n body s mu xb)(J:StOk (qm ts es) s)(P:zp env)(hx:mu[xb]?=some (.arr (cIn ts tb s)))(R:mu[tb]?=some (.mp (eSet es)))(t:n.op=1) :
  qA qc 79 [.ptr xb 0,eEnv env,eNd n,aB body] mu (endE ts tb mu xb (if s.sM+1<=4000 then vt env n (payS 1 s) else .error (2,0))):=by
 have T:=J.c0;have U:=J.c1;refine qSW call79 func79 rfl { mt:=[6] } ?_;have a0:xb<mu.length:=(qi.1 hx).1;simp[go_sem];refine fZ (payU ts tb s 1 ⟨zOm,zOm⟩ ⟨zOm,zOm⟩ (by grind)) ?_ ?_
 .rintro r m ⟨rfl,e⟩
  by_cases C:s.sM+1<=4000
  .rw [if_pos C]at e⊢
   cases e;have l:=M0.of (s':=payS 1 s) (n:=n) hx R;generalize a1:(mu++[Cell.arr (cNd n),.arr [aI 0,aS ⟨#[]⟩,aI 0,.lst true [],aI 0]]).set xb (.arr (cIn ts tb (payS 1 s)))=M at *
   simp[go_sem,l.n,t];have g:=qlG ts tb (payS 1 s) ⟨by show _<=s.sM+1;omega,by show s.sM+1<=_;omega⟩ env P.nd (fun e hm=>zW1 (P.sz e hm)) n l.x;generalize vt env n (payS 1 s)=Q at *
   have a2:=l.len;cases Q with
   |error d =>
    refine fZ g (by rintro r m ⟨e,_⟩;cases e) ?_;rintro r m ⟨e,i,j⟩;cases e;simp[go_sem];exact⟨rfl,l.but.trans ⟨j,i⟩⟩
   |ok q =>
    obtain⟨⟨n',k'⟩,s'⟩:=q;refine fZ g ?_ (by rintro r m ⟨e,_⟩;cases e);rintro r m ⟨e,a3,i,j⟩;cases e;have I:m[mu.length+1]?=some (.arr [aI 0,aS ⟨#[]⟩,aI 0,.lst true [],aI 0]):=by grind
    have o:mu.length+1<m.length:=zOm;have p:∀ c,(m.set (mu.length+1) c)[mu.length+1]?=some c:=fun c=>qL o
    simp[go_sem,I,p];exact⟨rfl,by grind,(l.but.trans ⟨j,i⟩).setN zOm _⟩
  grind
 .rintro r m ⟨rfl,e⟩
  by_cases C:s.sM+1<=4000
  .grind
  .rw [if_neg C]at e⊢
   cases e;simp[go_sem];exact⟨rfl,(But.app xb mu _).trans (cB xb _ _)⟩
theorem qbT{cs}(i:mu[b]?=some (.arr cs))(h:∀ c,c∈cs->HF c):Rd mu (.ptr b 0) (.ip cs):=
 .ptr b 0 cs cs i zSp fun k x y hx g=>by
  rw[yb]at hx;rw[hx]at g;cases g;exact .hf _ (h _ (qZ hx))
abbrev AP:=Nat×Int×Nd
abbrev eAP(a:AP):AV := .agg [.ptr a.1 0,aI a.2.1,aS ⟨#[]⟩]
abbrev ivA(a:AP):IV:=⟨some a.2.2,a.2.1,⟨#[]⟩⟩
abbrev ownA(acc:List (tC×AP)):IEnv:=acc.map fun e=>(e.1,ivA e.2)
theorem KS{i J j}[DecidableEq i](g:J->j)(k v):∀ es:List (i×J),(setK k v es).map (fun e=>(e.1,g e.2))=setK k (g v) (es.map fun e=>(e.1,g e.2))
 | []=>rfl
 |e :: es=>by
  simp only[setK,yi];split
  .rfl
  .rw [yi,KS g k v es]
theorem updAP{es}(i:mu[b]?=some (.mp (encK aS eAP es)))(nm v) :
  jI qc mu 149 (.mp b) (aS nm) (eAP v)=some (mu.set b (.mp (encK aS eAP (setK nm v es)))):=
 keyS.update (et:=215) (t:=149) zSi (mu:=mu) (b:=b) (venc:=eAP) (es:=es) i (k:=nm) (v:=v) trivial (fun _ _=>trivial)
theorem qbU{acc}(l:mu[b]?=some (.mp (encK aS eAP acc)))(p:(acc.map Prod.fst).Nodup)(o:∀ e,e∈acc->mu[e.2.1]?=some (.arr (cNd e.2.2.2))):Rd mu (.mp b) (eEnv (ownA acc)):=by
 have i:((ownA acc).map Prod.fst).Nodup:=by
  grind
 have get:∀(k:Nat)(x y:AV×AV),(encK aS eAP acc)[k]?=some x->(encK aS eIV (ownA acc))[k]?=some y->∃ e,e∈acc/\x=(aS e.1,eAP e.2)/\y=(aS e.1,eIV (ivA e.2)):=fun k x y hx g=>by
  grind
 refine .ims _ _ _ id id (PIx.refl _) (KQ i) (.mp b _ _ l zSp (fun k x y hx g=>?_) (fun k x y hx g=>?_))
 .obtain ⟨e,j,rfl,rfl⟩:=get k x y hx g
  exact .zsc _
 .obtain ⟨e,j,rfl,rfl⟩:=get k x y hx g
  refine .agg _ _ rfl fun k x y hx g=>?_
  match k with
  | 0 =>
   simp at hx g;subst hx;subst g;exact qbT (o e j) (vo _)
  | 1=>simp at hx g;subst hx;subst g;exact .zsc _
  | 2=>simp at hx g;subst hx;subst g;exact .zsc _
  |k+3=>simp at hx
theorem qn8{ps:List Pd}{g p}(h:ps.find? g=some p):∃ i,∃ j:i<ps.length,ps[i]=p/\idxI ps g=i:=by
 grind [List.find?_eq_some_iff_getElem,XI]
theorem qn9(ts)(h:okTS ts)(hb:∀ p,p∈ts.sT->WfN p.body/\yQ ts p.body)(es)(hF:qm ts es<=200000)(b0:Free ts es)(tb f)(ih:IHE ts es tb f)(env n body)(s:ISt)(mu xb)
  (hc:4000<s.sM+(f+1:Nat)) (hs:StOk (qm ts es) s) (he:zp env) (hw:WfN n) (aj:yQ ts n) (hx:mu[xb]?=some (.arr (cIn ts tb s))) (ht:mu[tb]?=some (.mp (eSet es))) (ab:n.op=47) :
  qA qc 79 [.ptr xb 0,eEnv env,eNd n,aB body] mu (endE ts tb mu xb (expI ts es (f+1) env n body s)):=by
 have bq:=hs.c0;have br:=hs.c1;generalize J:expI ts es (f+1) env n body s=R;simp only[expI,ab]at J;obtain⟨p,hp,b1⟩:=aj n (j8 n) ab;rw[hp]at J;refine qSW call79 func79 rfl { mt:=[6] } ?_;have bs:xb<mu.length:=(qi.1 hx).1;have b2:tb<mu.length:=(qi.1 ht).1;simp[go_sem];refine fZ (payU ts tb s 1 ⟨zOm,zOm⟩ ⟨zOm,zOm⟩ (by grind)) ?_ ?_
 .rintro r m ⟨rfl,e⟩
  by_cases T:s.sM+1<=4000
  .rw [if_pos T]at e J
   cases e;have hM:=M0.of (s':=payS 1 s) (n:=n) hx ht;generalize bt:(mu++[Cell.arr (cNd n),.arr [aI 0,aS ⟨#[]⟩,aI 0,.lst true [],aI 0]]).set xb (.arr (cIn ts tb (payS 1 s)))=M at *
   have bu:=hM.len;simp[go_sem,hM.n,ab];refine qh.fz (FzQ.one (b:=mu.length) (d:=6) (x := .ip (cNd n)) ?_ ?_)
   .simp [go_sem]
    grind [qbT,ua,vo]
   have ak:(cutM (fun j=>!(j == mu.length)) M 0)[xb]?=some (.arr (cIn ts tb (payS 1 s))):=by grind [ua]
   have bn:(cutM (fun j=>!(j == mu.length)) M 0)[tb]?=some (.mp (eSet es)):=by grind [ua]
   have bo:(cutM (fun j=>!(j == mu.length)) M 0)[mu.length+1]?=some (.arr [aI 0,aS ⟨#[]⟩,aI 0,.lst true [],aI 0]):=by grind [ua]
   have al:But xb mu (cutM (fun j=>!(j == mu.length)) M 0):=hM.but.cut fun i hi=>zSo
   have a8:(cutM (fun j=>!(j == mu.length)) M 0).length=mu.length+2:=by grind [jG]
   simp only[qB];generalize cutM (fun j=>!(j == mu.length)) M 0=M1 at *
   refine cL zKr ?_;simp[go_sem,ak];obtain⟨i,hi,b3,an⟩:=qn8 hp;have b4:JR qc (.fn (.func 125) [] [.ip (cNd n)]) ts.sT (fun x => .agg (cPd x)) (fun p=>decide (p.name=n.name)):=⟨_,_,_,rfl,fun p hp=>⟨_,qn6 p n,.zk (HF.agg (Uu p)) (.zk (J3 n) .nil)⟩⟩;refine pL (XJ false ts.sT _ (fun p=>decide (p.name=n.name)) b4 (zW1 h.np)) (.zk (Ze _) (.zk (HF.fn zSp (fun x hx=>by grind [J3])) .nil)) ?_;rw[an];have b5:p∈ts.sT:=List.mem_of_find?_eq_some hp;obtain⟨b6,b7⟩:=hb p b5;have ao:=hw.len;have a5:=Zf p;simp[go_sem,hi,b3,a5];have aq:StOk (qm ts es) (payS 1 s):=(wF hs zOm T).ok hs;have J:vK (yV (fun k s=>expI ts es f env k body s) p.params n.sD [] (payS 1 s)) (fun own s'=>expI ts es f own p.body true s')=R:=zUs J;generalize hQ:yV (fun k s=>expI ts es f env k body s) p.params n.sD [] (payS 1 s)=Q at *
   refine aA n.sD.length (fun k U=>∃(o:List (tC×AP)) (P:ISt),U.tm 0 = .ptr xb 0/\U.tm 1=eEnv env/\U.tm 3=aB body/\U.tm 8 = .ptr (mu.length+1) 0/\U.tm 10 = .ptr (mu.length+2) 0/\U.tm 11 = .mp (mu.length+3)/\U.tm 52=lNd n.sD/\U.tm 53=aI n.sD.length/\U.tm 54=aI k /\
    But xb mu U.mu/\mu.length+3<U.mu.length/\U.mu[xb]?=some (.arr (cIn ts tb P))/\U.mu[mu.length+1]?=some (.arr [aI 0,aS ⟨#[]⟩,aI 0,.lst true [],aI 0])/\U.mu[mu.length+2]?=some (.arr (cPd p))/\U.mu[mu.length+3]?=some (.mp (encK aS eAP o)) /\
    (∀ e,e∈o->mu.length+3<e.2.1/\e.2.1<U.mu.length/\U.mu[e.2.1]?=some (.arr (cNd e.2.2.2)))/\zp (ownA o)/\(o.map Prod.fst).Nodup/\StOk (qm ts es) P/\s.sM+1<=P.sM/\yV (fun k s=>expI ts es f env k body s) (p.params.drop k) (n.sD.drop k) (ownA o) P=Q) ?_ ?_
   .refine ⟨[],payS 1 s,zSi,zSi,zSi,zSi,by simp[go_sem,a8],by simp[go_sem,a8],zSi,zSi,zSi,?_,?_,?_,?_,?_,?_,zSp,.nil,zSp,aq,by show _<=s.sM+1;omega,zUs hQ⟩
    all_goals simp only[qB]
    .exact al.trans (But.app xb M1 _)
    .simp;omega
    .grind
    .grind
    .grind
    grind
   .rintro k U hk ⟨o,P,e0,e1,e3,e8,ad,ae,ar,af,ag,C,hl,gx,gr,gp,gm,au,a9,ah,a6,b8,hI⟩
    have b9:U.mu[tb]?=some (.mp (eSet es)):=by rw[C.same tb b2 (fun e=>by grind)];exact ht
    by_cases ao:k=n.sD.length
    .subst ao
     simp[go_sem,e0,ad,ae,af,ag,gp];rw[yA,List.drop_of_length_le zOm]at hI;have hI:Q = .ok (ownA o,P):=hI.symm;rw[hI]at J;have J:expI ts es f (ownA o) p.body true P=R:=J;have av:∀ i,i<mu.length+3->(cutM (fun i=>!decide (mu.length+3<=i)) U.mu 0)[i]?=U.mu[i]?:=fun i hi=>ua zSo
     have g:=ih (ownA o) p.body true P (cutM (fun i=>!decide (mu.length+3<=i)) U.mu 0) xb zOm a6 a9 b6 b7 (by grind) (by grind);rw[J]at g;have g:=qA.freeze (mu:=U.mu) (args:=[.ptr xb 0,.mp (mu.length+3),eNd p.body,aB true]) (args1:=[.ptr xb 0,eEnv (ownA o),eNd p.body,aB true]) (fun i=>decide (mu.length+3<=i)) ⟨.inl rfl,.inr (qbU (by grind [ua]) ah (fun e he=>by
      grind [ua])),.inl rfl,.inl rfl,trivial⟩ g
     cases R with
     |error d =>
      refine fZ g (by rintro r m ⟨e,_⟩;cases e) ?_;rintro r m ⟨e,t⟩;cases e;simp[go_sem];exact⟨rfl,(C.cut fun i hi=>zSo).trans t⟩
     |ok q =>
      obtain⟨⟨n',k'⟩,s'⟩:=q;refine fZ g ?_ (by rintro r m ⟨e,_⟩;cases e);rintro r m ⟨e,aw,t⟩;cases e;have ai:=t.len;rw[jG]at ai;have ax:mu.length+1<m.length:=zOm;have bc:m[mu.length+1]?=some (.arr [aI 0,aS ⟨#[]⟩,aI 0,.lst true [],aI 0]):=by rw[t.same _ (by rw[jG];omega) zOm,av _ zOm];exact gr
      have ay:∀ c,(m.set (mu.length+1) c)[mu.length+1]?=some c:=fun c=>qL ax
      simp[go_sem,e8,bc,ay];refine⟨rfl,by grind,?_⟩;exact((C.cut fun i hi=>zSo).trans t).setN zOm _
    .have a7:k<n.sD.length:=by omega
     have w1:=zWk k;have aa:k<p.params.length:=zOm;rw[zy a7,zy aa]at hI;simp only[yV]at hI;simp[go_sem,e0,e1,e3,ar,af,ag,a7];have a0:∀ i,i<U.mu.length->(U.mu++[Cell.arr (cNd n.sD[k])])[i]?=U.mu[i]?:=fun i hi=>qJ hi
     have az:n.sD[k]∈n.sD:=qq a7;have g:=ih env n.sD[k] body P (U.mu++[Cell.arr (cNd n.sD[k])]) xb zOm a6 he (hw.kid az) (aj.kid az) (by grind) (by rw[a0 _ zOm];exact b9);have be:∀{n' z s'},expI ts es f env n.sD[k] body P = .ok ((n',z),s')->Gos (qm ts es) P s' z:=fun e=>jl ts b0 f a6 he e
     generalize hE:expI ts es f env n.sD[k] body P=E at *
     cases E with
     |error d =>
      have hI:Q = .error d:=hI.symm;rw[hI]at J;have J:R = .error d:=J.symm;subst J;refine fZ g (by rintro r m ⟨e,_⟩;cases e) ?_;rintro r m ⟨e,t⟩;cases e;simp[go_sem];exact⟨rfl,C.trans ((But.app xb U.mu _).trans t)⟩
     |ok q =>
      obtain⟨⟨n',k'⟩,s'⟩:=q;have hg:=be rfl;simp only at hI;refine fZ g ?_ (by rintro r m ⟨e,_⟩;cases e);rintro r m ⟨e,aw,t⟩;cases e;have ai:=t.len;simp only[zb,zK,List.length_nil]at ai;have I:∀ i,i<U.mu.length->i≠xb->m[i]?=U.mu[i]?:=fun i hi bg=>by rw[t.same i zSo bg,a0 i hi]
      have bh:∀ l,(m++l)[mu.length+2]?=some (.arr (cPd p)):=fun l=>by rw[zGa,I _ zOm zOm];exact gp
      have bi:∀ l,(m++l)[mu.length+3]?=some (.mp (encK aS eAP o)):=fun l=>by grind
      have hu:=fun l=>updAP (bi l) p.params[k].1 (m.length,k',n')
      simp[go_sem,ad,ae,bh,aa];refine pM _ (hu _) ?_;generalize hN:(m++[Cell.arr (cNd n')]).set (mu.length+3) (.mp (encK aS eAP (setK p.params[k].1 (m.length,k',n') o)))=N;have bv:N.length=m.length+1:=by rw[<-hN];simp
      have a4:∀ i,i<m.length->i≠mu.length+3->N[i]?=m[i]?:=fun i h1 h2=>by rw[<-hN,zGl,qJ h1]
      have bj:N[mu.length+3]?=some (.mp (encK aS eAP (setK p.params[k].1 (m.length,k',n') o))):=by rw[<-hN,qL zSo]
      have bk:N[m.length]?=some (.arr (cNd n')):=by rw[<-hN,zGl,zN (qo _)];simp
      simp[go_sem,ag,w1];refine⟨a7,aC ?_⟩;have bm:k'<=4000:=zW2 hg.cz hg.c1;refine⟨setK p.params[k].1 (m.length,k',n') o,s',zS1 e0,zS1 e1,zS1 e3,zS1 e8,zS1 ad,zS1 ae,zS1 ar,zS1 af,zSi,?_,?_,?_,?_,?_,?_,?_,?_,u9 ah,hg.ok a6,zW2 hg.cz hg.z0,?_⟩
      all_goals try simp only[qB]
      .refine ⟨zW1 C.len,fun i h1 h2=>?_⟩
       rw[a4 i zOm zOm,I i zOm h2];exact C.same i h1 h2
      .omega
      .rw [a4 _ zOm zOm];exact aw
      .rw [a4 _ zOm zOm,I _ zOm zOm];exact gr
      .rw [a4 _ zOm zOm,I _ zOm zOm];exact gp
      .exact bj
      .intro e he
       rcases (Zk ah).1 he with rfl|⟨he,_⟩
       .exact ⟨by show _<m.length;omega,by show m.length<_;omega,bk⟩
       .obtain ⟨a1,a2,a3⟩:=au e he
        exact⟨a1,zOm,by rw[a4 _ zOm zOm,I _ zOm zOm];exact a3⟩
      .unfold ownA
       rw[KS (fun a:AP=>ivA a)];exact a9.set ⟨hg.z0,bm⟩
      .unfold ownA
       rw[KS (fun a:AP=>ivA a)];exact hI
  grind
 .rintro r m ⟨rfl,e⟩
  by_cases T:s.sM+1<=4000
  .rw [if_pos T]at e;cases e
  .rw [if_neg T]at e J
   cases e;subst J;simp[go_sem];exact⟨rfl,(But.app xb mu _).trans (cB xb _ _)⟩
theorem qbV(op):decide (op=15\/op=45\/op=46)=binB op:=by
 grind [binB]
theorem Zo{lo sz mu' av xs}(h:OwnF lo mu sz av xs)(l:lo<=mu'.length)(o:∀ i,lo<=i->i<mu.length->mu'[i]?=mu[i]?):OwnF lo mu' sz av xs:=by
 obtain⟨p,g,_⟩:=h;refine⟨?_,g,l⟩;rcases p with rfl|⟨b,rfl,j⟩
 .exact .inl rfl
 .exact .inr ⟨b,rfl,by rw[o b (g b _ _ _ rfl) (qi.1 j).1];exact j⟩
theorem U4(l:List Nd):zi 5 (l.map cNd):=fun r g=>by
 obtain⟨n,_,rfl⟩:=qk.1 g
 grind [Yi,Yj]
theorem U5{lo s xs k K}(j:OwnF lo mu 5 s (xs.map cNd))(l:xs.length<=100000)(o:∀ av mu',OwnF lo mu' 5 av ((xs++[k]).map cNd)->(∀ i,i<lo->mu'[i]?=mu[i]?)->K av mu') :
  qw qc mu #[33,33] s (.lst true [cNd k]) K:=by
 refine qw.ownF (lo:=lo) (e:=35) (sz:=5) (bt:=64) (zv := .agg [aI 0,aS ⟨#[]⟩,aI 0,.lst true [],aI 0]) (xs:=xs.map cNd) (ys:=[cNd k]) zSi zSi zSi rfl rfl zOm zOm j (by simp[qC]) (U4 xs) (U4 [k]) zSo ?_
 grind
theorem qoA(ts)(h:okTS ts)(es)(hF:qm ts es<=200000)(au:Free ts es)(tb f)(ih:IHE ts es tb f)(env n body)(s:ISt)(mu xb)
  (hc:4000<s.sM+(f+1:Nat)) (hs:StOk (qm ts es) s) (he:zp env) (hw:WfN n) (bm:yQ ts n) (hx:mu[xb]?=some (.arr (cIn ts tb s))) (ht:mu[tb]?=some (.mp (eSet es))) (h1:¬n.op=1) (h47:¬n.op=47) :
  qA qc 79 [.ptr xb 0,eEnv env,eNd n,aB body] mu (endE ts tb mu xb (expI ts es (f+1) env n body s)):=by
 have cv:=hs.c0;have cw:=hs.c1;have cx:xb<mu.length:=(qi.1 hx).1;have cg:tb<mu.length:=(qi.1 ht).1;have br:tb≠xb:=fun e=>by grind
 generalize hR:expI ts es (f+1) env n body s=R;simp only[expI,h1,h47,if_false]at hR;refine fU ?_;refine qSW call79 func79 rfl { mt:=[6] } ?_;simp[go_sem];refine fZ (payU ts tb s 1 ⟨zOm,zOm⟩ ⟨zOm,zOm⟩ (by grind)) ?_ ?_
 .rintro r m ⟨rfl,e⟩
  by_cases a6:s.sM+1<=4000
  .rw [if_pos a6]at e hR
   cases e;have hM:=M0.of (s':=payS 1 s) (n:=n) hx ht;generalize cy:(mu++[Cell.arr (cNd n),.arr [aI 0,aS ⟨#[]⟩,aI 0,.lst true [],aI 0]]).set xb (.arr (cIn ts tb (payS 1 s)))=M at *
   have da:=hM.len;have bs:=hw.len;have aw:StOk (qm ts es) (payS 1 s):=(wF hs zOm a6).ok hs;have bt:∀ c,(M.set mu.length c)[mu.length]?=some c:=fun c=>qL zOm
   have ch:=z8 n;simp[go_sem,hM.n,h1,h47,ch];refine aA n.sD.length (fun k U=>∃(I:List Nd) (j:IEnv) (C:tC) (s2:ISt) (t:AV) (z:Int),U.tm 0 = .ptr xb 0/\U.tm 1=eEnv j/\U.tm 3=aB body/\U.tm 6 = .ptr mu.length 0/\U.tm 8 = .ptr (mu.length+1) 0/\U.tm 17=aI z/\U.tm 87=lNd n.sD/\U.tm 88=aI n.sD.length/\U.tm 89=aI k /\
    But xb mu U.mu/\U.mu[xb]?=some (.arr (cIn ts tb s2))/\U.mu[mu.length+1]?=some (.arr [aI 0,aS ⟨#[]⟩,aI 0,.lst true [],aI 0])/\U.mu[mu.length]?=some (.arr [aI n.op,aS C,aI n.n,t,aI n.pos])/\OwnF (mu.length+2) U.mu 5 t (I.map cNd)/\zp j/\I.length=k /\
    0<=s2.last/\0<=s2.sM/\s2.sM<=4000/\dueN (qm ts es) (binB n.op) k<=pot (qm ts es) s2/\s.sM+1<=s2.sM/\1<=z/\z<=s2.sM-s.sM /\
    vK (yo (fun env k s=>expI ts es f env k body s) (fun env nm s=>renI ts es env nm body s) (binB n.op) k j C (n.sD.drop k) s2) (fun r s' => .ok ((.mk n.op r.1 n.n (I++r.2.1) n.pos,z+r.2.2),s'))=R) ?_ ?_
   .refine ⟨[],env,n.name,payS 1 s,.lst true [],1,zSi,zSi,zSi,zSi,zSi,zSi,zSi,zSi,zSi,?_,?_,?_,?_,?_,he,rfl,aw.l0,aw.c0,aw.c1,?_,by show _<=s.sM+1;omega,zOm,by show _<=s.sM+1-_;omega,zUs hR⟩
    all_goals try simp only[qB]
    .exact hM.but.setN (qo _) _
    .grind
    .grind
    .exact bt _
    .grind [OwnF.nil]
    .rw [Zn];have:=hs.p;grind [dueN]
   .rintro k U hk ⟨I,j,C,s2,t,z,e0,e1,e3,e6,e8,bb,an,af,ag,a7,gx,gr,gn,go,bc,db,ao,be,bg,bi,ah,dc,bn,hI⟩
    have gt:U.mu[tb]?=some (.mp (eSet es)):=by rw[a7.same tb cg br];exact ht
    have cu:mu.length+2<=U.mu.length:=go.2.2;by_cases bs:k=n.sD.length
    .subst bs
     have bu:=go.cells;have bj:=go.one;have bo:∀ c,(U.mu.set (mu.length+1) c)[mu.length+1]?=some c:=fun c=>qL zOm
     rw[yA]at hI;have hI:R = .ok ((.mk n.op C n.n I n.pos,z),s2):=by grind [yo,vK]
     simp[go_sem,e6,e8,bb,af,ag,gn,gr,bj,bo];rw[hI];have bq:(U.mu.set (mu.length+1) (.arr [aI n.op,aS C,aI n.n,t,aI n.pos])).length=U.mu.length:=zSp;refine .inr ⟨fun i=>decide (mu.length+2<=i),.tup [eNd (.mk n.op C n.n I n.pos),aI z],.rd _ _ (.tup _ _ rfl fun k x y hx hy=>?_),rfl,?_,?_⟩
     .match k with
      | 0 =>
       simp at hx hy;subst hx;subst hy;have cj:eNd (.mk n.op C n.n I n.pos) = .agg [aI n.op,aS C,aI n.n,.lst false (I.map cNd),aI n.pos]:=by
        show AV.agg (cNd _)=_;rw[z8];rfl
       rw[cj];refine .agg _ _ rfl fun k x y hx hy=>?_
       match k with
       | 0=>simp at hx hy;subst hx;subst hy;exact .zsc _
       | 1=>simp at hx hy;subst hx;subst hy;exact .zsc _
       | 2=>simp at hx hy;subst hx;subst hy;exact .zsc _
       | 3 =>
        simp at hx hy;subst hx;subst hy;exact Kj (go.set zOm) (U4 I).ok fun r hr c hc=>by
         obtain⟨x,_,rfl⟩:=qk.1 hr;exact vo x c hc
       | 4=>simp at hx hy;subst hx;subst hy;exact .zsc _
       |k+5=>simp at hx
      | 1=>simp at hx hy;subst hx;subst hy;exact .zsc _
      |k+2=>simp at hx
     .rw [ua zSo,zGl];exact gx
     .exact (a7.setN zOm _).cut fun i hi=>zSo
    .have a3:k<n.sD.length:=by omega
     have w1:=zWk k;have w2:qp.wrap 2=2:=rfl;rw[zy a3]at hI;simp only[yo]at hI;have g:∀(l:List Cell)(i:Nat),i<U.mu.length->(U.mu++l)[i]?=U.mu[i]?:=fun l i hi=>qJ hi
     have aq:∀ l,(U.mu++l)[mu.length]?=some (.arr [aI n.op,aS C,aI n.n,t,aI n.pos]):=fun l=>by rw[g l _ zOm];exact gn
     have bu:=go.cells;have bj:=go.one;by_cases hb:binB n.op=true/\k=1
     .obtain ⟨ax,rfl⟩:=hb
      rw[if_pos ⟨ax,rfl⟩]at hI;have ay:(1:Int)<n.sD.length:=zOm;simp[go_sem,ay,e6,an,af,ag,a3,aq];have az:=YX.mU n.op;rw[qbV,ax]at az;refine pL az (.zs .nil) ?_;have ck:=StOk.last (F:=qm ts es) ⟨ao,be,bg,zW1 (ZW (qm ts es) (binB n.op) 1)⟩;have bv:=qnZ ts h s2 es ⟨ao,zOm⟩ tb (au _ ao) j bc.nd C body (mu:=U.mu++[Cell.arr (cNd n.sD[1])]) (xb:=xb) (by rw[g _ _ zOm];exact gx) (by rw[g _ _ zOm];exact gt);have ai:=YO (env:=j) (nm:=C) (body:=body) au ao;have bw:=YN (ts:=ts) (es:=es) (nm:=C) (body:=body) (s:=s2) bc;generalize renI ts es j C body s2=r at *
      obtain⟨⟨a4,ar⟩,s3⟩:=r;simp only at ai bw hI;simp[go_sem,e0,e1,e3,e6,aq];refine fZ bv ?_ (by rintro r m ⟨e,_⟩;cases e);rintro r m1 ⟨e,a5,cl⟩;cases e;have ca:=a5.len;simp only[zb,zK,List.length_nil]at ca;have cm:m1[mu.length]?=some (.arr [aI n.op,aS C,aI n.n,t,aI n.pos]):=by rw[a5.same _ zSo zOm];exact aq _
      have cn:m1[mu.length+1]?=some (.arr [aI 0,aS ⟨#[]⟩,aI 0,.lst true [],aI 0]):=by rw[a5.same _ zSo zOm,g _ _ zOm];exact gr
      have cp:m1[U.mu.length]?=some (.arr (cNd n.sD[1])):=by rw[a5.same _ zSp zOm,zN (qo _)];simp
      have cq:m1[tb]?=some (.mp (eSet es)):=by rw[a5.same _ zSo br,g _ _ zOm];exact gt
      have cr:OwnF (mu.length+2) m1 5 t (I.map cNd):=Zo go zOm fun i q1 q2=>by rw[a5.same i zSo zOm,g _ _ q2]
      have ak:∀ c i,i≠mu.length->(m1.set mu.length c)[i]?=m1[i]?:=fun c i hi=>yE (fun e=>hi e.symm)
      have cs:∀ c,(m1.set mu.length c)[U.mu.length]?=some (.arr (cNd n.sD[1])):=fun c=>by rw[ak _ _ zOm];exact cp
      simp[go_sem,e0,e3,e6,cm,cs];generalize aj:m1.set mu.length (.arr [aI n.op,aS ar,aI n.n,t,aI n.pos])=M2;have bk:U.mu.length+1<=M2.length:=by rw[<-aj];simp;omega
      have b0:M2[xb]?=some (.arr (cIn ts tb s3)):=by rw[<-aj,ak _ _ zOm];exact cl
      have b1:M2[tb]?=some (.mp (eSet es)):=by rw[<-aj,ak _ _ zOm];exact cq
      have b2:M2[mu.length]?=some (.arr [aI n.op,aS ar,aI n.n,t,aI n.pos]):=by rw[<-aj];exact qL zOm
      have b3:M2[mu.length+1]?=some (.arr [aI 0,aS ⟨#[]⟩,aI 0,.lst true [],aI 0]):=by rw[<-aj,ak _ _ zOm];exact cn
      have a2:OwnF (mu.length+2) M2 5 t (I.map cNd):=by rw[<-aj];exact cr.set zOm
      have a8:But xb mu M2:=by
       rw[<-aj];exact(a7.trans ((But.app xb U.mu _).trans a5)).setN (qo _) _
      have dd:dueN (qm ts es) (binB n.op) 1=(qm ts es:Nat):=if_pos ⟨ax,zOm⟩;have de:dueN (qm ts es) (binB n.op) (1+1)=0:=zIn;have df:pot (qm ts es) s2-(qm ts es:Nat)<=pot (qm ts es) s3:=by unfold pot;rw[ai.2.2];omega
      have a1:StOk (qm ts es) s3:=⟨ai.1,by rw[ai.2.2];exact be,by rw[ai.2.2];exact bg,zOm⟩;have b4:dueN (qm ts es) (binB n.op) (1+1)<=pot (qm ts es) s3:=zOm;have al:s.sM+1<=s3.sM:=by rw[ai.2.2];exact ah
      have cb:z<=s3.sM-s.sM:=by rw[ai.2.2];exact bn
      have J:zp a4:=bw;have bh:True:=trivial;have a9:n.sD[1]∈n.sD:=qq a3;have P:=ih a4 n.sD[1] body s3 M2 xb zOm a1 J (hw.kid a9) (bm.kid a9) b0 b1;have b5:∀{n' z s'},expI ts es f a4 n.sD[1] body s3 = .ok ((n',z),s')->Gos (qm ts es) s3 s' z:=fun e=>jl ts au f a1 J e
      generalize hE:expI ts es f a4 n.sD[1] body s3=E at *
      cases E with
      |error d =>
       have hI:R = .error d:=hI.symm;subst hI;refine fZ P (by rintro r m ⟨e,_⟩;cases e) ?_;rintro r m ⟨e,o⟩;cases e;simp[go_sem];exact⟨rfl,a8.trans o⟩
      |ok q =>
       obtain⟨⟨n',k'⟩,s'⟩:=q;have hg:=b5 rfl;simp only at hI;refine fZ P ?_ (by rintro r m ⟨e,_⟩;cases e);rintro r m ⟨e,b6,o⟩;cases e;have bq:=o.len;have aa:∀ l,(m++l)[mu.length]?=some (.arr [aI n.op,aS ar,aI n.n,t,aI n.pos]):=fun l=>by rw[zGa,o.same _ zOm zOm];exact b2
       have a6:=a2.cells;have cc:=a2.one;have b7:qp.wrap (z+k')=z+k':=z7 (zW1 hg.z0) (zW2 hg.cz hg.c1);have b8:OwnF (mu.length+2) (m++[Cell.arr (cNd n')]) 5 t (I.map cNd):=Zo a2 zSo fun i h1 h2=>by rw[zGa,o.same i zOm zOm]
       simp[go_sem,e6,aa];refine U5 b8 zOm fun b9 m' T a0=>?_
       have cd:=T.2.2;have ab:m'[mu.length]?=some (.arr [aI n.op,aS ar,aI n.n,t,aI n.pos]):=by rw[a0 _ zOm];exact aa _
       have ad:=T.cells;have ae:=T.one;simp[go_sem,e6,bb,ag,ab,ad,ae,b7,w2];refine⟨a3,aC ?_⟩;refine⟨I++[n'],a4,ar,s',b9,z+k',zS1 e0,zSi,zS1 e3,zS1 e6,zS1 e8,zSi,zS1 an,zS1 af,zSi,?_,?_,?_,?_,?_,J,zSo,hg.l0,zW2 hg.cz hg.z0,hg.c1,Int.le_trans b4 hg.p,zW2 hg.cz hg.z0,zW1 hg.z0,zW1 hg.cz,?_⟩
       all_goals try simp only[qB]
       .refine ⟨zSo,fun i h1 h2=>?_⟩
        rw[zGl,a0 i zOm,zGa,o.same i zOm h2];exact a8.same i h1 h2
       .rw [zGl,a0 _ zOm,zGa];exact b6
       .rw [zGl,a0 _ zOm,zGa,o.same _ zOm zOm];exact b3
       .exact qL zOm
       .exact T.set zOm
       .rw [<-hI]
        generalize yo (fun env k s=>expI ts es f env k body s) (fun env nm s=>renI ts es env nm body s) (binB n.op) (1+1) a4 ar (n.sD.drop (1+1)) s'=W;cases W with
        |error e=>rfl
        |ok q=>simp[vK,Int.add_assoc]
     .rw [if_neg hb]at hI
      by_cases ct:k=1
      .subst ct
       have a5:binB n.op=false:=zUs hb;have ay:(1:Int)<n.sD.length:=zOm;simp[go_sem,ay,e6,an,af,ag,a3,aq];have az:=YX.mU n.op;rw[qbV,a5]at az;refine pL az (.zs .nil) ?_;simp[go_sem,e0,e1,e3];have bk:U.mu.length+1<=(U.mu++[Cell.arr (cNd n.sD[1])]).length:=zSp;have b0:(U.mu++[Cell.arr (cNd n.sD[1])])[xb]?=some (.arr (cIn ts tb s2)):=by rw[g _ _ zOm];exact gx
       have b1:(U.mu++[Cell.arr (cNd n.sD[1])])[tb]?=some (.mp (eSet es)):=by rw[g _ _ zOm];exact gt
       have b2:=aq [Cell.arr (cNd n.sD[1])];have b3:(U.mu++[Cell.arr (cNd n.sD[1])])[mu.length+1]?=some (.arr [aI 0,aS ⟨#[]⟩,aI 0,.lst true [],aI 0]):=by rw[g _ _ zOm];exact gr
       have a2:OwnF (mu.length+2) (U.mu++[Cell.arr (cNd n.sD[1])]) 5 t (I.map cNd):=Zo go zOm fun i q1 q2=>g _ _ q2
       have a8:But xb mu (U.mu++[Cell.arr (cNd n.sD[1])]):=a7.trans (But.app xb U.mu _);have a1:StOk (qm ts es) s2:=⟨ao,be,bg,zW1 (ZW (qm ts es) (binB n.op) 1)⟩;have b4:dueN (qm ts es) (binB n.op) (1+1)<=pot (qm ts es) s2:=by rw[<-U2 hb];exact bi
       have al:=ah;have cb:=bn;have J:=bc;have bh:=e1;generalize U.mu++[Cell.arr (cNd n.sD[1])]=M2 at *
       have a9:n.sD[1]∈n.sD:=qq a3;have P:=ih j n.sD[1] body s2 M2 xb zOm a1 J (hw.kid a9) (bm.kid a9) b0 b1;have b5:∀{n' z s'},expI ts es f j n.sD[1] body s2 = .ok ((n',z),s')->Gos (qm ts es) s2 s' z:=fun e=>jl ts au f a1 J e
       generalize hE:expI ts es f j n.sD[1] body s2=E at *
       cases E with
       |error d =>
        have hI:R = .error d:=hI.symm;subst hI;refine fZ P (by rintro r m ⟨e,_⟩;cases e) ?_;rintro r m ⟨e,o⟩;cases e;simp[go_sem];exact⟨rfl,a8.trans o⟩
       |ok q =>
        obtain⟨⟨n',k'⟩,s'⟩:=q;have hg:=b5 rfl;simp only at hI;refine fZ P ?_ (by rintro r m ⟨e,_⟩;cases e);rintro r m ⟨e,b6,o⟩;cases e;have bq:=o.len;have aa:∀ l,(m++l)[mu.length]?=some (.arr [aI n.op,aS C,aI n.n,t,aI n.pos]):=fun l=>by rw[zGa,o.same _ zOm zOm];exact b2
        have a6:=a2.cells;have cc:=a2.one;have b7:qp.wrap (z+k')=z+k':=z7 (zW1 hg.z0) (zW2 hg.cz hg.c1);have b8:OwnF (mu.length+2) (m++[Cell.arr (cNd n')]) 5 t (I.map cNd):=Zo a2 zSo fun i h1 h2=>by rw[zGa,o.same i zOm zOm]
        simp[go_sem,e6,aa];refine U5 b8 zOm fun b9 m' T a0=>?_
        have cd:=T.2.2;have ab:m'[mu.length]?=some (.arr [aI n.op,aS C,aI n.n,t,aI n.pos]):=by rw[a0 _ zOm];exact aa _
        have ad:=T.cells;have ae:=T.one;simp[go_sem,e6,bb,ag,ab,ad,ae,b7,w2];refine⟨a3,aC ?_⟩;refine⟨I++[n'],j,C,s',b9,z+k',zS1 e0,zS1 bh,zS1 e3,zS1 e6,zS1 e8,zSi,zS1 an,zS1 af,zSi,?_,?_,?_,?_,?_,J,zSo,hg.l0,zW2 hg.cz hg.z0,hg.c1,Int.le_trans b4 hg.p,zW2 hg.cz hg.z0,zW1 hg.z0,zW1 hg.cz,?_⟩
        all_goals try simp only[qB]
        .refine ⟨zSo,fun i h1 h2=>?_⟩
         rw[zGl,a0 i zOm,zGa,o.same i zOm h2];exact a8.same i h1 h2
        .rw [zGl,a0 _ zOm,zGa];exact b6
        .rw [zGl,a0 _ zOm,zGa,o.same _ zOm zOm];exact b3
        .exact qL zOm
        .exact T.set zOm
        .rw [<-hI]
         generalize yo (fun env k s=>expI ts es f env k body s) (fun env nm s=>renI ts es env nm body s) (binB n.op) (1+1) j C (n.sD.drop (1+1)) s'=W;cases W with
         |error e=>rfl
         |ok q=>simp[vK,Int.add_assoc]
      .have cf:¬(k:Int)=1:=by omega
       simp[go_sem,e0,e1,e3,an,af,ag,a3,cf];have bk:U.mu.length+1<=(U.mu++[Cell.arr (cNd n.sD[k])]).length:=zSp;have b0:(U.mu++[Cell.arr (cNd n.sD[k])])[xb]?=some (.arr (cIn ts tb s2)):=by rw[g _ _ zOm];exact gx
       have b1:(U.mu++[Cell.arr (cNd n.sD[k])])[tb]?=some (.mp (eSet es)):=by rw[g _ _ zOm];exact gt
       have b2:=aq [Cell.arr (cNd n.sD[k])];have b3:(U.mu++[Cell.arr (cNd n.sD[k])])[mu.length+1]?=some (.arr [aI 0,aS ⟨#[]⟩,aI 0,.lst true [],aI 0]):=by rw[g _ _ zOm];exact gr
       have a2:OwnF (mu.length+2) (U.mu++[Cell.arr (cNd n.sD[k])]) 5 t (I.map cNd):=Zo go zOm fun i q1 q2=>g _ _ q2
       have a8:But xb mu (U.mu++[Cell.arr (cNd n.sD[k])]):=a7.trans (But.app xb U.mu _);have a1:StOk (qm ts es) s2:=⟨ao,be,bg,zW1 (ZW (qm ts es) (binB n.op) k)⟩;have b4:dueN (qm ts es) (binB n.op) (k+1)<=pot (qm ts es) s2:=by rw[<-U2 hb];exact bi
       have al:=ah;have cb:=bn;have J:=bc;have bh:=e1;generalize U.mu++[Cell.arr (cNd n.sD[k])]=M2 at *
       have a9:n.sD[k]∈n.sD:=qq a3;have P:=ih j n.sD[k] body s2 M2 xb zOm a1 J (hw.kid a9) (bm.kid a9) b0 b1;have b5:∀{n' z s'},expI ts es f j n.sD[k] body s2 = .ok ((n',z),s')->Gos (qm ts es) s2 s' z:=fun e=>jl ts au f a1 J e
       generalize hE:expI ts es f j n.sD[k] body s2=E at *
       cases E with
       |error d =>
        have hI:R = .error d:=hI.symm;subst hI;refine fZ P (by rintro r m ⟨e,_⟩;cases e) ?_;rintro r m ⟨e,o⟩;cases e;simp[go_sem];exact⟨rfl,a8.trans o⟩
       |ok q =>
        obtain⟨⟨n',k'⟩,s'⟩:=q;have hg:=b5 rfl;simp only at hI;refine fZ P ?_ (by rintro r m ⟨e,_⟩;cases e);rintro r m ⟨e,b6,o⟩;cases e;have bq:=o.len;have aa:∀ l,(m++l)[mu.length]?=some (.arr [aI n.op,aS C,aI n.n,t,aI n.pos]):=fun l=>by rw[zGa,o.same _ zOm zOm];exact b2
        have a6:=a2.cells;have cc:=a2.one;have b7:qp.wrap (z+k')=z+k':=z7 (zW1 hg.z0) (zW2 hg.cz hg.c1);have b8:OwnF (mu.length+2) (m++[Cell.arr (cNd n')]) 5 t (I.map cNd):=Zo a2 zSo fun i h1 h2=>by rw[zGa,o.same i zOm zOm]
        simp[go_sem,e6,aa];refine U5 b8 zOm fun b9 m' T a0=>?_
        have cd:=T.2.2;have ab:m'[mu.length]?=some (.arr [aI n.op,aS C,aI n.n,t,aI n.pos]):=by rw[a0 _ zOm];exact aa _
        have ad:=T.cells;have ae:=T.one;simp[go_sem,e6,bb,ag,ab,ad,ae,b7,w1];refine⟨a3,aC ?_⟩;refine⟨I++[n'],j,C,s',b9,z+k',zS1 e0,zS1 bh,zS1 e3,zS1 e6,zS1 e8,zSi,zS1 an,zS1 af,zSi,?_,?_,?_,?_,?_,J,zSo,hg.l0,zW2 hg.cz hg.z0,hg.c1,Int.le_trans b4 hg.p,zW2 hg.cz hg.z0,zW1 hg.z0,zW1 hg.cz,?_⟩
        all_goals try simp only[qB]
        .refine ⟨zSo,fun i h1 h2=>?_⟩
         rw[zGl,a0 i zOm,zGa,o.same i zOm h2];exact a8.same i h1 h2
        .rw [zGl,a0 _ zOm,zGa];exact b6
        .rw [zGl,a0 _ zOm,zGa,o.same _ zOm zOm];exact b3
        .exact qL zOm
        .exact T.set zOm
        .rw [<-hI]
         generalize yo (fun env k s=>expI ts es f env k body s) (fun env nm s=>renI ts es env nm body s) (binB n.op) (k+1) j C (n.sD.drop (k+1)) s'=W;cases W with
         |error e=>rfl
         |ok q=>simp[vK,Int.add_assoc]
  grind
 .rintro r m ⟨rfl,e⟩
  by_cases a6:s.sM+1<=4000
  .rw [if_pos a6]at e;cases e
  .rw [if_neg a6]at e hR
   cases e;subst hR;simp[go_sem];exact⟨rfl,(But.app xb mu _).trans (cB xb _ _)⟩
theorem KT(ts)(h:okTS ts)(t:∀ p,p∈ts.sT->WfN p.body/\yQ ts p.body)(es)(l:qm ts es<=200000)(g:Free ts es)(tb):∀ f,IHE ts es tb f
 | 0=>fun env n body s mu xb C j o I i hx r=>zW1 j.c1
 |f+1=>fun env n body s mu xb C j o I i hx r=>by
  by_cases J:n.op=1
  .have:=qn7 ts es tb env n body s mu xb j o hx r J
   simp_all[expI,vt,payS,if_true]
  .by_cases h47:n.op=47
   .exact qn9 ts h t es l g tb f (KT ts h t es l g tb f) env n body s mu xb C j o I i hx r h47
   .exact qoA ts h es l g tb f (KT ts h t es l g tb f) env n body s mu xb C j o I i hx r J h47
end
end YD
namespace YE
open P1 P2 Y1 Y9 YX YZ YB YC YD
mutual
def cntT:Nd->Int
 | .mk _ _ _ ks _=>1+ja ks
def ja:List Nd->Int
 | []=>0
 |k :: ks=>cntT k+ja ks
end
theorem KU(n):cntT n=1+ja n.sD:=by
 obtain⟨op,nm,i,ks,p⟩:=n;simp[cntT,Nd.sD]
mutual
theorem KV:∀ n:Nd,1<=cntT n
 | .mk _ _ _ ks _=>by simp only[cntT];have:=U6 ks;omega
theorem U6:∀ ks:List Nd,0<=ja ks
 | []=>by simp[ja]
 |k :: ks=>by simp only[ja];have:=KV k;have:=U6 ks;omega
end
mutual
theorem KW:∀ n:Nd,depN n<=cntT n
 | .mk _ _ _ ks _=>by simp only[cntT,depN];have:=qbW ks;omega
theorem qbW:∀ ks:List Nd,yr ks<=ja ks
 | []=>by simp[yr,ja]
 |k :: ks=>by
  simp only[ja,yr];have:=KW k;have:=qbW ks;have:=KV k;have:=U6 ks;omega
end
section
variable {J:Type}{R:IEnv->tC->ISt->(IEnv×tC)×ISt}{es:List (tC×Bool)}{E:Nd->ISt->XR (Nd×Int)}
def uR(env:IEnv):Prop:=∀ e,e∈env->∀ a,e.2.arg=some a->e.2.size=cntT a/\Small a
theorem KX{g}[DecidableEq g]{k v}:∀{es:List (g×J)},getK k es=some v->(k,v)∈es
 | [],h=>by simp[getK]at h
 |e :: es,h=>by
  unfold getK at h;split at h
  .rename_i i;cases h;subst i;exact zj ..
  .exact za _ (KX h)
theorem U7{g}[DecidableEq g]{k v}:∀{es}{x:g×J},x∈setK k v es->x=(k,v)\/x∈es
 | [],x,h=>by grind [setK]
 |e :: es,x,h=>by
  unfold setK at h;split at h
  .rcases qv.1 h with h|h
   .exact .inl h
   .exact .inr (za _ h)
  .rcases qv.1 h with h|h
   .exact .inr (by rw[h];exact zj ..)
   .exact (U7 h).imp id (za _)
theorem qoB{ts env nm body s}(h:uR env):uR (renI ts es env nm body s).1.1:=by
 have i:uR (delK nm env):=fun e g=>h e (Xy.subset g)
 unfold renI;split
 .intro e g a j
  rcases U7 g with rfl|g
  .cases j
  .exact i e g a j
 .exact i
theorem qbX:∀{ks ps own g s s'},(∀ k n' z s s',k∈ks->E k s = .ok ((n',z),s')->z=cntT n'/\Small n')->uR own->yV E ps ks own s = .ok (g,s')->uR g
 | [],ps,own,g,s,s',_,i,e=>by
  have e:Except.ok (own,s)=(Except.ok (g,s'):XR IEnv):=by cases ps<;>exact e
  cases e;exact i
 |k :: ks,[],own,g,s,s',_,i,e=>by cases e;exact i
 |k :: ks,p :: ps,own,g,s,s',l,i,e=>by
  simp only[yV]at e;split at e
  .cases e
  .rename_i t m s1 C
   refine qbX (fun k n' z s s' o=>l k n' z s s' (za _ o)) (fun e j a r=>?_) e;rcases U7 j with rfl|j
   .grind
   .exact i e j a r
theorem qbY{E bin}(p:∀ env nm s,uR env->uR (R env nm s).1.1) :
  ∀{ks i env nm nm' s s' j m},(∀ env k n' z s s',k∈ks->uR env->E env k s = .ok ((n',z),s')->z=cntT n'/\Small n')->uR env ->
  yo E R bin i env nm ks s = .ok ((nm',j,m),s')->m=ja j/\j.length=ks.length/\∀ k,k∈j->Small k
 | [],i,env,nm,nm',s,s',j,m,_,_,e=>by
  cases e;exact⟨rfl,rfl,fun k o=>absurd o qI⟩
 |k :: ks,i,env,nm,nm',s,s',j,m,t,C,e=>by
  simp only[yo]at e;obtain⟨r,I⟩:∃ r,r=if bin=true/\i=1 then R env nm s else ((env,nm),s):=⟨_,rfl⟩
  rw[<-I]at e;have l:uR r.1.1:=by
   rw[I];split
   .exact p _ _ _ C
   .exact C
  split at e
  .cases e
  .rename_i J P s1 T
   have g:=t r.1.1 k J P r.2 s1 (zj ..) l T;split at e
   .cases e
   .rename_i U a0 m2 s2 h2
    obtain⟨q1,q2,q3⟩:=qbY p (fun env k n' z s s' o=>t env k n' z s s' (za _ o)) l h2;cases e;refine⟨by simp only[ja];rw[g.1,q1],zP1 q2,fun x hx=>?_⟩;rcases qv.1 hx with rfl|hx
    .exact g.2
    .exact q3 x hx
theorem YP(ts)(o:∀ p,p∈ts.sT->WfN p.body)(es):∀(f){env n n' body s s' z},uR env->WfN n->expI ts es f env n body s = .ok ((n',z),s')->z=cntT n'/\Small n'
 | 0,_,_,_,_,_,_,_,_,_,e=>by cases e
 |f+1,env,n,n',body,s,s',z,j,l,e=>by
  simp only[expI]at e;split at e
  .split at e
   .rename_i J
    have g:n.sD=[]:=by
     have hs:=l.shape;simp_all[shp,if_pos,qt,List.map_eq_nil_iff]
    unfold vt at e;split at e
    .cases e
     exact⟨by rw[KU,g];rfl,l.small⟩
    .rename_i v r
     split at e
     .cases e
      refine⟨by rw[KU];show 1=1+ja n.sD;rw[g];rfl,.mk _ (by show n.sD.length<=1000;rw[g];simp) fun k i=>?_⟩;have i:k∈n.sD:=i
      grind
     .rename_i a P
      split at e
      .cases e
       exact j _ (KX r) _ P
      .cases e
   .split at e
    .split at e
     .cases e
     .rename_i p hp
      obtain⟨own,s1,t,e⟩:=Zm e;have R:=qbX (fun k n' z s s' i C=>YP ts o es f j (l.kid i) C) (fun e j=>absurd j qI) t;exact YP ts o es f R (o p (List.mem_of_find?_eq_some hp)) e
    .obtain ⟨⟨T,I,m⟩,s1,t,e⟩:=Zm e
     cases e;obtain⟨U,q2,q3⟩:=qbY (fun env nm s h=>qoB h) (fun env k n' z s s' i r C=>YP ts o es f r (l.kid i) C) j t;refine⟨by rw[KU];show 1+m=_;rw[U];rfl,.mk _ ?_ q3⟩;show I.length<=1000;have:=l.len;omega
  .cases e
theorem qbZ:∀{ks ps own s d},(∀ k s d,E k s = .error d->d=(2,0))->yV E ps ks own s = .error d->d=(2,0)
 | [],ps,own,s,d,_,e=>by
  have e:Except.ok (own,s)=(Except.error d:XR IEnv):=by cases ps<;>exact e
  cases e
 |k :: ks,[],own,s,d,_,e=>by cases e
 |k :: ks,p :: ps,own,s,d,g,e=>by
  simp only[yV]at e;split at e
  .rename_i j i
   cases e;exact g _ _ _ i
  .exact qbZ g e
theorem qb0{E:IEnv->Nd->ISt->XR (Nd×Int)}{bin}:∀{ks i env nm s d},(∀ env k s d,E env k s = .error d->d=(2,0))->yo E R bin i env nm ks s = .error d->d=(2,0)
 | [],i,env,nm,s,d,_,e=>by cases e
 |k :: ks,i,env,nm,s,d,g,e=>by
  simp only[yo]at e;split at e
  .rename_i j l
   cases e;exact g _ _ _ _ l
  .split at e
   .rename_i j o
    cases e;exact qb0 g o
   .cases e
theorem qb1{i q}{g:J->ISt->XR i}{d}(h:vK q g = .error d):q = .error d\/∃ a s,q = .ok (a,s)/\g a s = .error d:=by
 unfold vK at h;split at h
 .grind
 .exact .inr ⟨_,_,rfl,h⟩
theorem Vf(ts es):∀(f){env n body s d},expI ts es f env n body s = .error d->d=(2,0)
 | 0,_,_,_,_,_,e=>by cases e;rfl
 |f+1,env,n,body,s,d,e=>by
  simp only[expI]at e;split at e
  .split at e
   .unfold vt at e
    split at e
    .cases e
    .split at e
     .cases e
     .split at e
      .cases e
      .cases e;rfl
   .split at e
    .split at e
     .cases e;rfl
     .rcases qb1 e with e|⟨own,g,i,e⟩
      .exact qbZ (fun k s d h=>Vf ts es f h) e
      .exact Vf ts es f e
    .rcases qb1 e with e|⟨own,g,i,e⟩
     .exact qb0 (fun env k s d h=>Vf ts es f h) e
     .cases e
  .cases e;rfl
def outI(ts:TS)(es:List (tC×Bool))(n:Nd):Except Dg Nd:=
 match expI ts es 4001 [] n false ⟨0,0⟩ with
 | .error d => .error d
 | .ok ((g,z),_)=>if z<=400/\depN g<=24 then .ok g else .error (2,n.pos)
theorem KY{ts n d}(h:outI ts es n = .error d):d.1=2:=by
 grind [outI,Vf]
theorem qoC(ts)(h:okTS ts)(hb:∀ p,p∈ts.sT->WfN p.body/\yQ ts p.body)(es)(hF:qm ts es<=200000)(R:Free ts es)(n)(hw:WfN n)(a3:yQ ts n){mu xp ob xb tb}
  (h1:mu[xp]?=some (.arr [.ptr xb 0])) (hx:mu[xb]?=some (.arr (cIn ts tb ⟨0,0⟩))) (ht:mu[tb]?=some (.mp (eSet es))) (T:mu[ob]?=some (.arr [aI 0,aS ⟨#[]⟩,aI 0,.lst true [],aI 0])) :
  qA qc 78 [.ptr xp 0,.ip (cNd n),.ptr ob 0] mu fun e m=>match outI ts es n with
   | .error d=>e = .pan (jL d.1 d.2)/\mu.length<=m.length/\∀ i,i<mu.length->i≠xb->i≠ob->m[i]?=mu[i]?
   | .ok n'=>e = .ret (.tup [])/\m[ob]?=some (.arr (cNd n'))/\mu.length<=m.length/\∀ i,i<mu.length->i≠xb->i≠ob->m[i]?=mu[i]?:=by
 refine qSW call78 func78 rfl {} ?_;have aa:xp<mu.length:=(qi.1 h1).1;have ab:xb<mu.length:=(qi.1 hx).1;have ad:tb<mu.length:=(qi.1 ht).1;have a4:ob<mu.length:=(qi.1 T).1;have U:ob≠xb:=fun e=>by grind
 simp[go_sem,h1];have j:∀ i,i<mu.length->(cutM (fun i=>!decide (mu.length<=i)) (mu++[Cell.mp []]) 0)[i]?=mu[i]?:=fun i hi=>by grind [ua,qJ]
 have a0:StOk (qm ts es) ⟨0,0⟩:=⟨zSp,zSp,zSp,by simp[pot]⟩;have g:=KT ts h hb es hF R tb 4001 [] n false ⟨0,0⟩ (cutM (fun i=>!decide (mu.length<=i)) (mu++[Cell.mp []]) 0) xb zSp a0 .nil hw a3 (by grind) (by grind);have g:=qA.freeze (mu:=mu++[Cell.mp []]) (args:=[.ptr xb 0,.mp mu.length,eNd n,aB false]) (args1:=[.ptr xb 0,eEnv [],eNd n,aB false]) (fun i=>decide (mu.length<=i)) ⟨.inl rfl,.inr (qbU (acc:=[]) (by grind [ua]) zSp (fun e he=>absurd he qI)),.inl rfl,.inl rfl,trivial⟩ g;have a6:=fun {n' z P}=>YP ts (fun p hp=>(hb p hp).1) es 4001 (env:=[]) (n:=n) (n':=n') (body:=false) (s:=⟨0,0⟩) (s':=P) (z:=z) (fun e he=>absurd he qI) hw
 have a7:=fun {n' z P}=>jl ts R 4001 (env:=[]) (n:=n) (n':=n') (body:=false) (s':=P) (z:=z) a0 .nil
 unfold outI;generalize expI ts es 4001 [] n false ⟨0,0⟩=E at *
 cases E with
 |error d =>
  refine fZ g (by rintro r m ⟨e,_⟩;cases e) ?_;rintro r m ⟨e,l⟩;cases e;have o:=l.len;rw[jG]at o;simp only[zb,zK,List.length_nil]at o;simp[go_sem];exact⟨zOm,fun i hi hx T=>by rw[l.same i (by grind) hx,j i hi]⟩
 |ok q =>
  obtain⟨⟨n',z⟩,P⟩:=q;obtain⟨hz,a8⟩:=a6 rfl;have hg:=a7 rfl;have af:z<=4000:=by have:=hg.cz;have:=hg.c1;grind
  have ag:=KW n';refine fZ g ?_ (by rintro r m ⟨e,_⟩;cases e);rintro r m ⟨e,ah,l⟩;cases e;have o:=l.len;rw[jG]at o;simp only[zb,zK,List.length_nil]at o;have a9:m[ob]?=some (.arr [aI 0,aS ⟨#[]⟩,aI 0,.lst true [],aI 0]):=by rw[l.same _ (by grind) U,j _ a4];exact T
  have t:∀ c,(m.set ob c)[ob]?=some c:=fun c=>qL zOm
  simp[go_sem,a9];have C:∀ c,mu.length<=(m.set ob c).length/\∀ i,i<mu.length->i≠xb->i≠ob->(m.set ob c)[i]?=mu[i]?:=fun c=>⟨zSo,fun i hi hx T=>by
   rw[yE (fun e=>T e.symm),l.same i (by grind) hx,j i hi]⟩
  have wz:∀ b c,WKs [aB b,aI c,eNd n] [aB b,aI c,eNd n]:=fun b c => .zs (.zs (.zk (qK n) .nil))
  by_cases J:z<=400
  .have I:=qbF (szN n') n' (qo _) a8 zOm
   by_cases a2:depN n'<=24
   .refine cL zKr ?_
    simp[go_sem,J,t];refine pL I (.zk (qK n') .nil) ?_;simp[go_sem,a2];refine pL (zO true 2 n).toP (wz true 2) ?_;simp[go_sem,t]
    grind
   .refine qh.tail 8 zKr ?_
    simp[go_sem,J,t];refine pL I (.zk (qK n') .nil) ?_;simp[go_sem,a2];refine aK (zO false 2 n) (wz false 2) ?_;simp[go_sem];simpa using C _
  .refine qh.tail 8 zKr ?_
   simp[go_sem,J];refine aK (zO false 2 n) (wz false 2) ?_;simp[go_sem];simpa using C _
end
end YE
namespace YG
open YS P1 Y1 Y9 YX YZ YA YB YC YE Q6
def valD(l:List UInt8):Nat:=l.foldl (fun a b=>10*a+(b.toNat-48)) 0
theorem qoD(u):valD (Lib.decDigits u)=u:=by
 induction u using Nat.strongRecOn with
 |_ u g =>
  rw[Lib.decDigits];split
  .rename_i h
   simp only[valD,List.foldl_cons,List.foldl_nil];rw[UInt8.toNat_ofNat_of_lt' (by simp[UInt8.size];omega)];omega
  .rename_i h
   have:=g (u / 10) zOm;unfold valD at this⊢;rw[vR,this];simp only[List.foldl_cons,List.foldl_nil];rw[UInt8.toNat_ofNat_of_lt' (by simp[UInt8.size];omega)];omega
theorem qoE{a b:Nat}(h:jv (a:Int)=jv (b:Int)):a=b:=by
 have g:Lib.decDigits a=Lib.decDigits b:=by
  unfold jv Lib.itoa at h;rw[zIn,zIn]at h;simp only[Int.toNat_natCast]at h;have h:=congrArg (fun x:tC=>x.data.toList) h;simpa using h
 grind [qoD]
theorem qoF{p a b:tC}(h:p++a=p++b):a=b:=by
 simp_all
theorem KZ{a b:Nat}(h:vN (a:Int)=vN (b:Int)):a=b:=qoE (qoF h)
def badL(ts:TS)(es:List (tC×Bool)):List tC:=es.map Prod.fst++(ts.sA.map (fun f=>f.name)++ts.sS.flatMap fun s=>[s.1,s.1++je,s.1++j0])
theorem qoG(ts es):(badL ts es).length+1=qm ts es:=by
 have:∀ l:List (tC×Bool),(l.flatMap fun s=>[s.1,s.1++je,s.1++j0]).length=3*l.length:=by
  intro l;induction l with
  |nil=>rfl
  |cons a l g=>grind
 grind [badL,qm,zb,zW]
theorem qoH{ts es nm}(h:yD ts es nm=false):nm∈badL ts es:=by
 unfold yD at h;unfold badL;rw[Bool.and_eq_false_iff]at h;rcases h with h|h
 .have h:getK nm es=some true:=by simpa using h
  exact js _ (qk.2 ⟨_,KX h,rfl⟩)
 .refine List.mem_append_right _ ?_
  have h:means ts nm≠[]:=zUs h;unfold means at h;by_cases hf:yN ts.sA nm=[]
  .rw [hf,vd]at h
   refine List.mem_append_right _ ?_;have:∀(g:List (tC×Bool))(i:Nat),yO i g nm≠[]->nm∈g.flatMap fun s=>[s.1,s.1++je,s.1++j0]:=by
    intro g;induction g with
    |nil=>intro i h;exact absurd rfl h
    |cons s g t =>
     intro i h;rw[List.flatMap_cons,qM];by_cases j:ug i s nm=[]
     .refine .inr (t (i+1) ?_)
      simpa[yO,j] using h
     .left
      unfold ug at j;by_cases l:s.1=nm
      .simp [l]
      by_cases o:s.2=true/\s.1++je=nm
      .simp [o.2]
      by_cases p:s.2=true/\s.1++j0=nm
      .simp [p.2]
      exact absurd (by simp[l,o,p]) j
   exact this ts.sS 0 h
  .refine js _ ?_
   obtain⟨k,r⟩:=List.exists_mem_of_ne_nil _ hf;unfold yN at r;obtain⟨f,hf,e⟩:=List.mem_filterMap.1 r;split at e
   .rename_i C
    exact qk.2 ⟨f,hf,C⟩
   .cases e
theorem U8(ts es):Free ts es:=by
 intro l I;by_cases g:∃ j:Nat,1<=j/\j<=qm ts es/\yD ts es (vN (l+j))=true
 .exact g
 exfalso;obtain⟨L,rfl⟩:∃ L:Nat,l=L:=⟨l.toNat,zOm⟩;have o:∀ x,x∈(qs (qm ts es)).map (fun i=>vN ((L+(i+1):Nat):Int))->x∈badL ts es:=fun x hx=>by
  obtain⟨i,t,rfl⟩:=qk.1 hx;rw[yh]at t;refine qoH ?_;cases C:yD ts es (vN ((L+(i+1):Nat):Int)) with
  |false=>rfl
  |true=>exact absurd ⟨i+1,zOm,zOm,by rw[show (L:Int)+((i+1:Nat):Int)=((L+(i+1):Nat):Int) by omega];exact C⟩ g
 have p:((qs (qm ts es)).map (fun i=>vN ((L+(i+1):Nat):Int))).Nodup:=by
  refine List.pairwise_map.2 (List.nodup_range.imp fun r e=>r ?_);have:=KZ e;omega
 have:=jT p o;rw[zW,List.length_range]at this;have:=qoG ts es;omega
def putN(es:List (tC×Bool))(l:List Nd):List (tC×Bool):=l.foldl (fun es n=>setK n.name true es) es
def yR(ts:TS)(n:Nd):List (tC×Bool):=ts.sT.foldl (fun I p=>putN I (preN p.body)) (putN [] (preN n))
def zd(ts:TS)(n:Nd):Nd×Int:=
 if (yy ts [] n).1≠0 then (nd0,(yy ts [] n).1)
 else if anyN (fun n=>decide (n.op=47)) n=false then (n,0)
 else match outI ts (yR ts n) n with
  | .error d=>(nd0,d.1)
  | .ok g=>(g,0)
theorem Vg(p):∀ m n,szN n<=m->anyN p n=(preN n).any p
 | 0,n,g=>by obtain⟨op,nm,i,ks,q⟩:=n;simp[szN]at g
 |m+1,n,g=>by
  rw[UR,ur,List.any_cons];congr 1;have:∀ l:List Nd,(∀ k,k∈l->k∈n.sD)->um p l=(zz l).any p:=by
   intro l;induction l with
   |nil=>intro _;rfl
   |cons k l o =>
    intro j;simp only[um,zz,List.any_append];rw[o fun x hx=>j x (za _ hx),Vg p m k (zW1 (yn (j k (zj ..))))]
  exact this n.sD fun k r=>r
end YG
namespace YH
open YF P1 P2 Y1 Y6 Y9 Y14 YX YZ YB YC YE YG Q6
section
variable {b:Bool}{es:List (tC×Bool)}{mu:Mu}{ts:TS}
structure InM (ts:TS) (es:List (tC×Bool)) (b:Bool) (mu:Mu):Prop where
 r:mu[0]?=some (.arr [aI 0,aS ⟨#[]⟩,aI 0,.lst true [],aI 0])
 t:mu[2]?=some (.mp (eSet es))
 x:mu[3]?=some (.arr (cIn ts 2 ⟨0,0⟩))
 p:mu[4]?=some (.arr [.ptr 3 0])
 c:mu[5]?=some (.arr [aB b])
theorem InM.len(h:InM ts es b mu):5<mu.length:=(qi.1 h.c).1
theorem InM.push(h:InM ts es b mu)(l):InM ts es b (mu++l):=by
 have g:=h.len;exact⟨by rw[zGa];exact h.r,by rw[zGa];exact h.t,by rw[zGa];exact h.x,by rw[zGa];exact h.p,by rw[zGa];exact h.c⟩
theorem InM.setT{g}(h:InM ts es b mu):InM ts g b (mu.set 2 (.mp (eSet g))):=by
 have i:=h.len;exact⟨by rw[zGl];exact h.r,qL zOm,by rw[zGl];exact h.x,by rw[zGl];exact h.p,by rw[zGl];exact h.c⟩
theorem InM.setC{b'}(h:InM ts es b mu):InM ts es b' (mu.set 5 (.arr [aB b'])):=by
 have g:=h.len;exact⟨by rw[zGl];exact h.r,by rw[zGl];exact h.t,by rw[zGl];exact h.x,by rw[zGl];exact h.p,qL zOm⟩
theorem qoI(mu):Rd mu eN0 (eNd nd0) := .agg _ _ rfl fun k x y hx g=>by
 match k with
 | 0=>simp[nd0,cNd]at hx g;subst hx;subst g;exact .zsc _
 | 1=>simp[nd0,cNd]at hx g;subst hx;subst g;exact .zsc _
 | 2=>simp[nd0,cNd]at hx g;subst hx;subst g;exact .zsc _
 | 3=>simp[nd0,cNd,cNds]at hx g;subst hx;subst g;exact .wk _ true [] (.hf _ (HF.lst fun r i=>absurd i qI))
 | 4=>simp[nd0,cNd]at hx g;subst hx;subst g;exact .zsc _
 |k+5=>simp at hx
theorem YQ(mu d):Rd mu (.tup [eN0,aI d]) (.tup [eNd nd0,aI d]) := .tup _ _ rfl fun k x y hx g=>by
 match k with
 | 0=>grind [qoI]
 | 1=>simp at hx g;subst hx;subst g;exact .zsc _
 |k+2=>simp at hx
theorem qoJ(ts)(h:okTS ts)(hb:∀ p,p∈ts.sT->WfN p.body/\yQ ts p.body)(n)(hw:WfN n)(ai:(yy ts [] n).1=0->yQ ts n)(hF:qm ts (yR ts n)<=200000):qg qc 36 [eTS ts,eNd n] (.tup [eNd (zd ts n).1,aI (zd ts n).2]):=by
 generalize j:zd ts n=R;unfold zd at j;refine qSQ call36 func36 rfl { mt:=[25] } ?_;simp[go_sem];have a6:∀ p,p∈ts.sT->WfN p.body:=fun p hp=>(hb p hp).1
 refine fR (qlC ts h a6 n hw [] ⟨zSp,zSp⟩) (.zk (zq ts) (.cons (WK.lst fun r hr=>absurd hr qI) (.zk (qK n) .nil))) ?_;by_cases o:(yy ts [] n).1=0
 case neg =>
  rw[if_pos o]at j;subst j;simp[go_sem,o];refine fD [0,1,2,4,3] [(0,0,[]),(1,0,[]),(2,0,[]),(4,0,[]),(3,1,[2])] zKr zKr zSi ?_;simp_all[go_sem,YQ]
 case pos =>
  rw[if_neg (zUs o)]at j;simp[go_sem,o];have aj:∀(v:List Nd)(k:Nd)(C:Mu),InM ts (putN [] v) (v.any fun n=>decide (n.op=47)) C->qA qc 75 (eNd k :: [.ptr 4 0,.ptr 5 0]) C fun e m=>e = .ret (.tup [])/\InM ts (putN [] (v++[k])) ((v++[k]).any fun n=>decide (n.op=47)) m:=fun v k C g=>by
   refine(qnS ts ⟨0,0⟩ 2 _ _ k g.p g.x g.c g.t).monoR ?_;rintro e m ⟨rfl,rfl⟩;refine⟨rfl,?_⟩;rw[List.any_append];simp only[putN,vR,List.foldl_cons,List.foldl_nil,List.any_cons,List.any_nil,Bool.or_false];exact g.setT.setC
  refine fZ (KO (caps:=[.ptr 4 0,.ptr 5 0]) (fun v C=>InM ts (putN [] v) (v.any fun n=>decide (n.op=47)) C) (fun v C l h=>h.push l) aj (szN n) n (qo _) hw.small [] _ ⟨rfl,rfl,rfl,rfl,rfl⟩) ?_ (by grind);rintro r m ⟨e,g⟩;cases e;rw[vd,<-Vg _ (szN n) n (qo _)]at g;have au:=g.len;have a8:∀ c,(m.set 0 c)[0]?=some c:=fun c=>qL zOm
  cases J:anyN (fun n=>decide (n.op=47)) n with
  |false =>
   rw[J]at g j;rw[if_pos rfl]at j;subst j;simp[go_sem,g.c,g.r,a8];exact .hf _ (HF.tup fun c o=>by simp at o;rcases o with rfl|rfl;exact qK n;exact HF.sc _)
  |true =>
   rw[J]at g j;rw[if_neg zSp]at j;have av:=h.np;simp[go_sem,g.c];refine aA ts.sT.length (fun k U=>U.tm 3 = .ip (cNd n)/\U.tm 4 = .ptr 0 0/\U.tm 7 = .ptr 4 0/\U.tm 33=lPd ts.sT/\U.tm 34=aI ts.sT.length/\U.tm 35=aI k/\InM ts ((ts.sT.take k).foldl (fun I p=>putN I (preN p.body)) (putN [] (preN n))) true U.mu) ?_ ?_
   .simp [go_sem, *]
   .rintro k U hk ⟨e3,e4,e7,a9,a2,a3,hM⟩
    by_cases ak:k=ts.sT.length
    .subst ak
     simp[go_sem,e3,e7,a2,a3];rw[qR]at hM;have hM:InM ts (yR ts n) true U.mu:=hM;have aw:=hM.len;have a0:InM ts (yR ts n) true (U.mu++[Cell.arr [aI 0,aS ⟨#[]⟩,aI 0,.lst true [],aI 0]]++[.dead]):=(hM.push _).push _;have aa:=qoC ts h hb (yR ts n) hF (U8 ts _) n hw (ai o) (mu:=U.mu++[Cell.arr [aI 0,aS ⟨#[]⟩,aI 0,.lst true [],aI 0]]++[.dead]) (ob:=U.mu.length) a0.p a0.x a0.t zSp;have al:=j;clear j;generalize hQ:outI ts (yR ts n) n=Q at *
     refine fZ (nr aa ?_) ?_ ?_
     .grind
     .rintro r m ⟨P,c,⟨l,rfl⟩,a4⟩
      have ab:U.mu.length+2<=P.length/\∀ i,i<U.mu.length+2->i≠3->i≠U.mu.length->P[i]?=(U.mu++[Cell.arr [aI 0,aS ⟨#[]⟩,aI 0,.lst true [],aI 0]]++[.dead])[i]?:=by
       grind
      have ad:∀(c:Cell)(l:List Cell),(P.set (U.mu.length+1) c++l)[0]?=some (.arr [aI 0,aS ⟨#[]⟩,aI 0,.lst true [],aI 0]):=fun c l=>by
       rw[qJ zSo,zGl,ab.2 0 zOm zOm zOm];exact a0.r
      have T:∀(c c2:Cell)(l:List Cell),((P.set (U.mu.length+1) c++l).set 0 c2)[0]?=some c2:=fun c c2 l=>qL zSo
      have ae:∀(c c':Cell)(l:List Cell),(P.set (U.mu.length+1) c++(l++[c']))[P.length+l.length]?=some c':=fun c c' l=>by
       simp
      have a5:∀(c c' c2:Cell)(l:List Cell),((P.set (U.mu.length+1) c++(l++[c'])).set 0 c2)[P.length+l.length]?=some c':=fun c c' c2 l=>by
       grind
      rcases a4 with ⟨r',j,e⟩|⟨er,p,j,e⟩
      .cases Q with
       |error d=>grind
       |ok n' =>
        cases e;have an:∀(c:Cell)(l:List Cell),(P.set (U.mu.length+1) c++l)[U.mu.length]?=some (.arr (cNd n')):=fun c l=>by
         grind
        simp[go_sem,e4,an,ad,T];subst al;exact .hf _ (HF.tup fun c o=>by simp at o;rcases o with rfl|rfl;exact qK _;exact HF.sc _)
      .cases Q with
       |ok n'=>grind
       |error d =>
        have af:=KY hQ;have e1:er=d.1:=by grind
        subst e1;cases e;simp[go_sem,af];have n0:=ad c (l++[Cell.arr [aI d.1,aI p]]);have n1:=ae c (Cell.arr [aI d.1,aI p]) l;have n2:=fun c2=>a5 c (Cell.arr [aI d.1,aI p]) c2 l
        have n3:=fun c2=>T c c2 (l++[Cell.arr [aI d.1,aI p]])
        rw[af]at n0 n1 n2 n3;generalize P.set (U.mu.length+1) c++(l++[Cell.arr [aI 2,aI p]])=N at *
        generalize P.length+l.length=b at *
        refine fD [0,1,2,4,3] [(0,0,[]),(1,0,[]),(2,0,[]),(4,0,[]),(3,1,[2])] zKr zKr zSi ?_
        all_goals
         simp[go_sem,e4,n0,n1,n2,n3]
         grind [YQ]
     simp
    .have a1:k<ts.sT.length:=by omega
     have w1:=zWk k;have ag:=Zf ts.sT[k];simp[go_sem,e7,a9,a2,a3,a1,ag];have ao:ts.sT[k]∈ts.sT:=qq a1;generalize aq:(ts.sT.take k).foldl (fun I p=>putN I (preN p.body)) (putN [] (preN n))=E0 at *
     have ah:∀(v:List Nd)(x:Nd)(C:Mu),InM ts (putN E0 v) true C->qA qc 76 (eNd x :: [.ptr 4 0]) C fun e m=>e = .ret (.tup [])/\InM ts (putN E0 (v++[x])) true m:=fun v x C g=>by
      refine(qnT ts ⟨0,0⟩ 2 _ x g.p g.x g.t).monoR ?_;rintro e m ⟨rfl,rfl⟩;refine⟨rfl,?_⟩;simp only[putN,vR,List.foldl_cons,List.foldl_nil];exact g.setT
     refine fZ (KO (caps:=[.ptr 4 0]) (fun v C=>InM ts (putN E0 v) true C) (fun v C l h=>h.push l) ah (szN ts.sT[k].body) ts.sT[k].body (qo _) (a6 _ ao).small [] _ (hM.push _)) ?_ (by rintro r m ⟨e,_⟩;cases e);rintro r m ⟨e,ar⟩;cases e;simp[go_sem,a3,w1];refine⟨a1,aC ?_⟩;refine⟨zS1 e3,zS1 e4,zS1 e7,zS1 a9,zS1 a2,zSi,?_⟩;rw[List.take_add_one,qz a1,vR,aq];simpa[go_sem] using ar
end
end YH
end Go.Proofs.YtfednihcpihlgaaGreatDoor
namespace Go.EvW
open Go Go.Ev Go.RowKit Go.ChangeShapes Go.WideShapes
section
variable {H J:Type}{c:J->List AV}{fs:List (qd×Nat)}{cs:List qy}{N:Nat}{P:qb}{t:qd}{w:qf}
def CR(w:qf)(xs:List AV)(cs:List qy):Prop:=
 cs.length=xs.length/\∀(k:Nat) x,xs[k]?=some x->VRel ⟨(·<w.heap.size),[]⟩ w.heap x (cs.getD k j2)
theorem CR.nil(w):CR w [] []:=⟨rfl,zSp⟩
theorem CR.one{x v}(h:VRel ⟨(·<w.heap.size),[]⟩ w.heap x v):CR w [x] [v]:=⟨rfl,fun k y g=>by
 grind⟩
theorem CR.app{xs ys ds}(h:CR w xs cs)(k:CR w ys ds):CR w (xs++ys) (cs++ds):=by
 refine⟨by simp[h.1,k.1],fun i x g=>?_⟩;by_cases j:i<xs.length
 .rw [qJ j]at g
  have:=h.2 i x g;rw[z6]at this⊢;rw[qJ (by rw[h.1];exact j)];exact this
 .rw [zN zOm]at g
  have:=k.2 _ x g;rw[z6]at this⊢;rw[zN (by rw[h.1];omega),h.1];exact this
def jP(P:qb)(t:qd)(d:DataW H):Prop:=(d.weights P t).all (·<=reachBytes)=true
theorem jP.all{e}:∀{ds:List (DataW H)},(DataW.weightsAll P e ds).all (·<=reachBytes)=true->∀(i:Nat) d,ds[i]?=some d->jP P e d
 | [],_,i,d,g=>by simp at g
 |x :: r,h,i,d,g=>by
  simp only[DataW.weightsAll,List.all_append,qF]at h;cases i with
  |zero=>simp at g;subst g;exact h.1
  |succ i=>exact jP.all h.2 i d (zUs g)
theorem cR:∀{ts}{ds:List (DataW H)},(DataW.weightsEach P ts ds).all (·<=reachBytes)=true->∀(i:Nat) t d,ts[i]?=some t->ds[i]?=some d->jP P t d
 | [],ds,_,i,t,d,g,_=>by simp at g
 |t0 :: ts,[],_,i,t,d,_,j=>by simp at j
 |t0 :: ts,x :: r,h,i,t,d,g,j=>by
  simp only[DataW.weightsEach,List.all_append,qF]at h;cases i with
  |zero=>simp at g j;subst g;subst j;exact h.1
  |succ i=>exact cR h.2 i t d (zUs g) (zUs j)
def ShT(P:qb)(n:Nat)(t:qd){J:Type}(c:J->List AV)(ok:J->Prop):Prop:=
 ∀(H:Type)(g:qd×qy->H)(w:qf)(i:List qy)(x:DataW H×List MemPlace),
  DataW.trod g P w 0 (fun _=>true) true n t i=some x->jP P t x.1->∃ a,ok a/\CR w (c a) i
def ShU(P:qb)(N:Nat)(t:qd){J:Type}(c:J->List AV)(ok:J->Prop):Prop:=∀ n,n<N->ShT P n t c ok
theorem ShU.le{M ok}(h:ShU P N t c ok)(g:M<=N):ShU P M t c ok:=fun n i=>h n zOm
theorem ShU.map{i ok c' g}(h:ShU P N t c ok)(f:J->i)(r:∀ a,c' (f a)=c a)(C:∀ a,ok a->g (f a)):ShU P N t c' g:=by
 intro n l H j w o x hx p;obtain⟨a,I,R⟩:=h n l H j w o x hx p
 grind
theorem ShU.int{k}(g:P.underlying t=some (.int k))(N):ShU P N t (fun n:Int=>[.sc (.int k n)]) (fun n=>(Lit.int k n).wf=true):=by
 intro n o H j w p x h _;obtain⟨i,rfl,_,l⟩:=DataW.trod_int g h;exact⟨i,l,.one (.sc _ rfl)⟩
theorem ShU.bool(g:P.underlying t=some .bool)(N):ShU P N t (fun b:Bool=>[.sc (.bool b)]) (fun _=>True):=by
 intro n l H j w o x h _;obtain⟨i,rfl,_⟩:=DataW.trod_bool g h;exact⟨i,trivial,.one (.sc _ rfl)⟩
theorem ShU.string(j:P.underlying t=some .string)(N):ShU P N t (fun s:tC=>[.sc (.string s)]) (fun s=>s.size<=140737488351232):=by
 intro n p H l w r x h g;obtain⟨i,rfl,rfl,C⟩:=DataW.trod_string j h;refine⟨i,?_,.one (.sc _ rfl)⟩;unfold jP at g;simp only[DataW.weights,List.all_cons,List.all_nil,Bool.and_true,decide_eq_true_eq]at g;have e:i.data.toList.length=i.size:=Array.length_toList;have o:i.size<=reachBytes:=by rw[<-e];exact g
 exact zG o (vO rfl)
theorem qb2{a n}(h:w.cells? 0 a n=some cs):cs.length=n/\∀ i,i<n->w.cell? (a.add i)=some (cs.getD i j2):=by
 unfold World.cells? at h;rw[if_pos (Nat.zero_le _)]at h;have g:=mapM_some_length h;refine⟨zUs g,fun i j=>?_⟩;have:=mapM_some_get h i i (zP1 j)
 grind
theorem qb3{a v}(h:w.cell? a=some v):∃ arr e g,w.heap[a.block]?=some (.cells arr e g)/\a.spot=none/\arr[a.off]?=some v:=by
 unfold World.cell? at h;split at h
 .simp_all
 .cases h
theorem qoK[Inhabited J]{p:Nat->J->Prop}(n)(h:∀ i,i<n->∃ a,p i a):∃ l:List J,l.length=n/\∀(i) a,l[i]?=some a->p i a:=by
 induction n with
 |zero=>simp
 |succ n g =>
  obtain⟨l,j,o⟩:=g (fun i r=>h i zOm);obtain⟨a,t⟩:=h n zOm;refine⟨l++[a],zP1 j,fun i b C=>?_⟩
  grind
theorem ShU.slice{e}[Inhabited J]{c ok}(ht:P.underlying t=some (.slice e))(he:ShU P N e c ok)(ak:∀ a,ok a->(c a).length=P.cellsOf e)(p:0<P.cellsOf e)(a5:Nat.blt 0 (P.bytesOf e)=true) :
  ShU P (N+1) t (fun l:List J=>[.lst false (l.map c)]) (fun l=>l.length<=140737488351232/\∀ a,a∈l->ok a):=by
 intro n hn H a6 w cs x h hw;rcases DataW.trod_slice ht h with ⟨rfl,_⟩|⟨a,len,cap,g,C,m,rfl,rfl,rfl,_,hl,hc,al,T,_,_⟩
 .exact ⟨[],⟨zSp,zSp⟩,.one (.nil _)⟩
 .have a7:(DataW.weightsAll P e (g.map (·.1))).all (·<=reachBytes)=true:=by
   simp_all[jP,DataW.weights,List.all_cons,List.all_append,qF]
  have an:len<=140737488351232:=by
   unfold jP at hw;simp only[DataW.weights,ht,List.all_cons,List.all_append,qF,decide_eq_true_eq]at hw;have I:=hw.1;have a8:1<=P.bytesOf e:=vO a5;have h2:((g.map (·.1)).length+(C.map (·.1)).length)*1<=((g.map (·.1)).length+(C.map (·.1)).length)*P.bytesOf e:=Nat.mul_le_mul_left _ a8;simp only[zW]at I h2;have h3:reachBytes<=140737488351232:=vO rfl;omega
  have key:∀ i,i<len->∃ b,ok b/\∃ o,w.cells? 0 (a.add (i*P.cellsOf e)) (P.cellsOf e)=some o/\CR w (c b) o:=by
   intro i hi;have I:=T i hi;have U:i<g.length:=zOm;rw[qz U]at I;obtain⟨o,h2,h3⟩:=Option.bind_eq_some_iff.1 I;obtain⟨b,h4,h5⟩:=he m zOm H a6 w o _ h3 (jP.all a7 i _ (by rw[zn,qz U];rfl))
   grind
  obtain⟨l,a9,a0⟩:=qoK len key;refine⟨l,⟨zOm,fun b hb=>?_⟩,.one ?_⟩
  .grind [List.mem_iff_getElem?]
  .have aa:(l.map c).length=len:=by simp[a9]
   rw[<-aa];cases Nat.eq_zero_or_pos len with
   |inl h0 =>
    have:l=[]:=wR zOm;subst this;exact .emp _ a cap zSp
   |inr hp =>
    have ab:0<l.length:=zOm;obtain⟨_,ao,I,_⟩:=a0 0 l[0] (qz ab);obtain⟨ad,R⟩:=qb2 I;have ae:=R 0 p;obtain⟨arr,el,fr,hb,hs,_⟩:=qb3 ae;have ai:∀ k:Nat,a.spot=none->(a.add k).spot=none/\(a.add k).off=a.off+k:=by
     grind [Addr.add]
    have a1:∀(b:Addr)(j:Nat),(b.add j).block=b.block:=by
     grind [Addr.add]
    have e0:((a.add (0*P.cellsOf e)).add 0).block=a.block/\((a.add (0*P.cellsOf e)).add 0).spot=a.spot:=by
     grind [Addr.add]
    rw[e0.1]at hb;rw[e0.2]at hs;have hz:yM (P.cellsOf e) (l.map c):=fun r hr=>by
     obtain⟨b,aq,rfl⟩:=qk.1 hr
     grind [List.mem_iff_getElem?]
    have ar:=yL hz;refine .lst false (l.map c) (P.cellsOf e) a cap arr el fr (fun k=>arr.getD (a.off+k) j2) hb hs zOm zSp (Array.getElem?_eq_some_iff.1 hb).1 hz ?_ ?_
    all_goals
     intro k x hk;have au:k<(l.map c).length*P.cellsOf e:=by grind
     have hq:k / P.cellsOf e<l.length:=by
      simp_all[zW,Nat.div_lt_of_lt_mul,Nat.mul_comm]
     have hr:k % P.cellsOf e<P.cellsOf e:=Nat.mod_lt _ p;have av:k / P.cellsOf e*P.cellsOf e+k % P.cellsOf e=k:=by
      grind [Nat.div_add_mod,Nat.mul_comm]
     obtain⟨_,o,I,h2⟩:=a0 (k / P.cellsOf e) _ (qz hq);obtain⟨ad,R⟩:=qb2 I;have af:=R _ hr;have a2:(l.map c)[k / P.cellsOf e]?=some (c l[k / P.cellsOf e]):=by rw[zn,qz hq];rfl
     have hx:(c l[k / P.cellsOf e])[k % P.cellsOf e]?=some x:=by
      have ag:k % P.cellsOf e<(c l[k / P.cellsOf e]).length:=by grind
      have:=WA hz a2 (qz ag)
      grind
     obtain⟨aj,aw,ax,a3,ay,a4⟩:=qb3 af;have e1:((a.add (k / P.cellsOf e*P.cellsOf e)).add (k % P.cellsOf e)).block=a.block:=by rw[a1,a1]
     have e2:((a.add (k / P.cellsOf e*P.cellsOf e)).add (k % P.cellsOf e)).off=a.off+k:=by
      grind [Addr.add]
     rw[e1,hb]at a3;cases a3;rw[e2]at a4;have ah:arr.getD (a.off+k) j2=o.getD (k % P.cellsOf e) j2:=by
      rw[q8,a4];rfl
    .grind
    .show VRel _ _ x (arr.getD (a.off+k) j2)
     rw[ah];exact h2.2 _ x hx
def U9(P:qb)(t:qd):Option (List (qd×Nat)):=match P.underlying t with|some (.struct g)=>some (g.toList.map fun f=>(f.type,f.offset))|_=>none
inductive ShF (P:qb) (N:Nat):Nat->List (qd×Nat)->{α:Type}->(α->List AV)->(α->Prop)->Prop where
 |nil (o:Nat):ShF P N o [] (fun _:Unit=>[]) (fun _=>True)
 |cons {o:Nat} {t:qd} {fs:List (qd×Nat)} {α β:Type} {c:α->List AV} {ok:α->Prop} {c':β->List AV} {ok':β->Prop} (h:ShU P N t c ok) (k:ShF P N (o+P.cellsOf t) fs c' ok') :
   ShF P N o ((t,o) :: fs) (fun x:α×β=>c x.1++c' x.2) (fun x=>ok x.1/\ok' x.2)
def Vh(P:qb)(fs:List (qd×Nat)):Nat:=(fs.map fun f=>P.cellsOf f.1).foldr (·+·) 0
theorem ShF.read{n o ok}(h:ShF P N o fs c ok)(r:n<N){H}{enc:qd×qy->H}{w}(cs:List qy)
  (p:cs.length=o+Vh P fs) (hx:∀(i:Nat) f,fs[i]?=some f->∃ x,DataW.trod enc P w 0 (fun _=>true) true n f.1 ((cs.drop f.2).take (P.cellsOf f.1))=some x/\jP P f.1 x.1) :
  ∃ a,ok a/\CR w (c a) (cs.drop o):=by
 induction h with
 |nil o =>
  refine⟨(),trivial,?_⟩;rw[List.drop_of_length_le (by grind [Vh])];exact .nil w
 | @cons o t fs J β c ok c' C h k I =>
  obtain⟨x,j,l⟩:=hx 0 _ rfl;obtain⟨a,R,T⟩:=h n r H enc w _ x j l;have U:Vh P ((t,o) :: fs)=P.cellsOf t+Vh P fs:=rfl;obtain⟨b,hb,hs⟩:=I zOm (fun i g hg=>hx (i+1) g hg);refine⟨(a,b),⟨R,hb⟩,?_⟩;have e:cs.drop o=(cs.drop o).take (P.cellsOf t)++cs.drop (o+P.cellsOf t):=by
   rw[<-List.drop_drop,uc]
  rw[e];exact T.app hs
theorem ShU.struct{ok}(j:U9 P t=some fs)(hf:ShF P N 0 fs c ok)(T:P.cellsOf t=Vh P fs):ShU P (N+1) t c ok:=by
 intro n hn H l w U x h hw;unfold U9 at j;split at j
 .rename_i gs hu
  simp only[qt]at j;subst j;obtain⟨p,m,rfl,rfl,hl,a0,hg⟩:=DataW.trod_struct hu h;have C:(DataW.weightsEach P (gs.toList.map (·.type)) (p.map (·.1))).all (·<=reachBytes)=true:=by
   grind [jP,DataW.weights]
  obtain⟨a,ha,hr⟩:=hf.read (n:=m) zOm (w:=w) (enc:=l) U zOm (fun i f I=>by
   simp only[zn,jS]at I;obtain⟨g,o,rfl⟩:=I;have R:=hg i g (zUs o);have r:i<p.length:=by
    grind
   rw[qz r]at R;exact⟨_,R,cR C i _ _ (by rw[zn,o];rfl) (by rw[zn,qz r];rfl)⟩)
  grind
 .cases j
theorem ShU.arg1{c:J->AV}{ok}(h:∀ N,ShU P N t (fun a=>[c a]) ok)(g:∀ w r b v,Value.okWide P w r b t v->v.cells=#[v])
  {H} {enc} {w} {r} {b} {v} {d:DataW H} {ps} (i:Value.okWide P w r b t v) (l:DataW.Trod enc P w 0 (fun _=>true) true t v d ps) (o:jP P t d) :
  ∃ a,ok a/\VRel ⟨(·<w.heap.size),[]⟩ w.heap (c a) v:=by
 obtain⟨n,p⟩:=l;obtain⟨a,C,j⟩:=h (n+1) n zOm H enc w _ _ p o;rw[g w r b v i]at j;have:=j.2 0 (c a) rfl
 grind
theorem cW{ok fs}(h:∀ N,ShU P N t c ok)(j:P.underlying t=some (.struct fs))
  {H} {enc} {w} {r} {b} {v} {d:DataW H} {ps} (g:Value.okWide P w r b t v) (l:DataW.Trod enc P w 0 (fun _=>true) true t v d ps) (o:jP P t d) :
  ∃ a,ok a/\VRel ⟨(·<w.heap.size),[]⟩ w.heap (.agg (c a)) v:=by
 obtain⟨n,p⟩:=l;obtain⟨a,C,i⟩:=h (n+1) n zOm H enc w _ _ p o;unfold Value.okWide at g;rw[j]at g;obtain⟨R,rfl,_,_⟩:=g;refine⟨a,C,.agg _ _ (by simpa[Value.cells] using i.1) (fun k x I=>?_)⟩;have:=i.2 k x I
 grind [Value.cells,q8]
end
end Go.EvW
namespace Go.EvW
open Go Go.Ev Go.RowKit Go.ChangeShapes Go.WideShapes
section
variable {J:Type}{c:J->List AV}{ts:List qd}{P:qb}{t:qd}{w:qf}
def ZX(P:qb)(t:qd){J:Type}(c:J->AV)(ok:J->Prop):Prop:=
 ∀(H:Type)(g:qd×qy->H)(w:qf)(r:Reach)(b:Nat)(v:qy)(d:DataW H)(i:List MemPlace),Value.okWide P w r b t v->DataW.Trod g P w 0 (fun _=>true) true t v d i->jP P t d ->
  ∃ a,ok a/\VRel ⟨(·<w.heap.size),[]⟩ w.heap (c a) v
theorem ZX.struct{ok}(g:(U9 P t).isSome=true)(h:∀ N,ShU P N t c ok):ZX P t (fun a => .agg (c a)) ok:=by
 intro H i w r b v d C j l o;unfold U9 at g;split at g
 .rename_i I p;exact cW h p j l o
 grind
inductive ArgF (P:qb):List qd->{α:Type}->(α->List AV)->(α->Prop)->Prop where
 |nil:ArgF P [] (fun _:Unit=>[]) (fun _=>True)
 |cons {t:qd} {ts:List qd} {α β:Type} {c:α->AV} {ok:α->Prop} {c':β->List AV} {ok':β->Prop} (h:ZX P t c ok) (k:ArgF P ts c' ok'):ArgF P (t :: ts) (fun x:α×β=>c x.1 :: c' x.2) (fun x=>ok x.1/\ok' x.2)
theorem ArgF.read{ok}(h:ArgF P ts c ok){H enc w r b} :
  ∀{g}{ds:List (DataW H)}{ps},DataW.TrodAll enc P w 0 (fun _=>true) true ts g ds ps->(∀(j:Nat) t v,ts[j]?=some t->g[j]?=some v->Value.okWide P w r b t v)->(DataW.weightsEach P ts ds).all (·<=reachBytes)=true ->
  ∃ a,ok a/\ds.length=ts.length/\g.length=(c a).length/\∀(k) x,(c a)[k]?=some x->VRel ⟨(·<w.heap.size),[]⟩ w.heap x (g.getD k j2):=by
 induction h with
 |nil =>
  intro g ds ps i _ _;obtain⟨rfl,rfl,rfl⟩:=trodAll_nil i;simp
 | @cons t ts J β c ok c' R h k T =>
  intro g ds ps i I l;obtain⟨v,U,d,a0,p,q,rfl,rfl,rfl,h1,h2⟩:=trodAll_cons i;simp only[DataW.weightsEach,List.all_append,qF]at l;obtain⟨a,ha,hr⟩:=h H enc w r b v d p (I 0 t v rfl rfl) h1 l.1;obtain⟨a',o,C,hl,hg⟩:=T h2 (fun j t v=>I (j+1) t v) l.2;refine⟨(a,a'),⟨ha,o⟩,zP1 C,zP1 hl,fun k x hx=>?_⟩
  grind
theorem qb4(j:laidOutB P=true){H enc W l sp}:∀{ts g}{ds:List (DataW H)}{ps},
  (∀ t,t∈ts->P.readableRec t=true/\t<P.types.size)->DataW.TrodAll enc P W 0 (fun _=>true) true ts g ds ps->(∀ p∈ps,W.sameAt l p)->(∀ p∈ps,sp p.block=true)->DataW.TrodAll enc P l 0 sp true ts g ds ps
 | [],g,ds,ps,_,h,_,_=>by
  obtain⟨rfl,rfl,rfl⟩:=trodAll_nil h;exact trodAll_mk0
 |t :: ts,g,ds,ps,o,h,r,C=>by
  obtain⟨v,I,d,J,p,q,rfl,rfl,rfl,g1,R⟩:=trodAll_cons h;have i:=o t zSp;exact trodAll_cons_mk (WideElems.Trod_stays j i.1 i.2 g1 (fun x hx=>r x (zP1 hx)) (fun x hx=>C x (zP1 hx)))
   (qb4 j (fun t i=>o t (zP1 i)) R (fun x hx=>r x (zP1 hx)) (fun x hx=>C x (zP1 hx)))
theorem qb5{f fn}{s:ChangeSpec}{tb ok}(hp:fn.params=ts.toArray)(hF:ArgF P ts c ok)(hv:s.vars=[])
  (I:∀ H ds,ds.length=ts.length->s.fn H ds={ results:=[.lit (.bool true)],args:=ds }) (hr:fn.resultTypes=#[tb]) (R:P.underlying tb=some .bool)
  (hl:laidOutB P=true) (a5:(ts.all fun t=>P.readableRec t&&decide (t<P.types.size))=true) (hS:∀ a,ok a->qg P f (c a) (aB true))
  (H) (o) (W) (base) (args) (ds gs:List (DataW H)) (g)
  (i:∀(j:Nat) t v,fn.params[j]?=some t->args[j]?=some v->Value.okWide P W .any base t v) (hW:DataW.Whole o P fn.params.toList s.vars false W args.toList ds gs g) (a6:(DataW.weightsEach P fn.params.toList ds).all (·<=reachBytes)=true) (hT:Zx (·<W.heap.size) W.heap) :
  Calls P f args W fun e W'=>∃ v,e = .returned v/\s.post o P fn false true false false W args v W':=by
 have T:=hW;obtain⟨p,q,hA,hV,C,a7,_⟩:=hW;rw[hv]at hV;obtain⟨hg,hq⟩:=trodVars_none hV;subst hg;subst hq;rw[zF]at C;subst C;rw[hp]at hA i;obtain⟨a,ha,U,a0,a8⟩:=hF.read (r := .any) (b:=base) hA (fun j t v h1 h2=>i j t v (zUs h1) (zUs h2)) (by grind);have a1:∀ x,x∈g->x.block<W.heap.size:=fun x hx=>hA.lt x hx
 obtain⟨_,l⟩:=hS a ha;refine(l (·<W.heap.size) W args (Sim.empty (fun _ h=>h) hT) ⟨zUs a0,fun k x hk=>?_⟩).mono fun e W' ⟨a4,v,he,_,_,hb,a2⟩=>?_
 .simp_all
 .have a3:v = .bool true:=by cases a2;rfl
  subst a3;refine⟨_,he,ds,[],g,[],g,[],T,?_,?_,?_,World.keptBut_mono (fun x hx=>⟨hx,.inr (.inl hx)⟩) (hb.frame (·∈g)),fun h=>by cases h⟩
  all_goals try rw[zF]
  all_goals try rw[I H ds U]
  .rw [hr]
   exact trodAll_cons_mk (p':=[]) (shut_bool R true) trodAll_mk0
  .rw [hp]
   refine qb4 hl (fun t ht=>?_) hA (fun x hx=>hb.same (a1 x hx)) (fun x hx=>by grind)
   grind
  .rw [hv];rfl
theorem ShF.cons'{N o o' fs i ok c' g}(j:o+P.cellsOf t=o')(h:ShU P N t c ok)(k:ShF P N o' fs c' g) :
  ShF P N o ((t,o) :: fs) (fun x:J×i=>c x.1++c' x.2) (fun x=>ok x.1/\g x.2):=by
 subst j;exact .cons h k
theorem qb6:∀{laid ps},DataW.LaidVars P w laid ps->∀ x,x∈laid->∃ g t cs fuel p,P.globalNamed x.1=some g/\(P.globals[g]?).map (·.type)=some t/\w.var? P x.1=some cs/\DataW.trod (fun _=>()) P w 0 (fun _=>true) false fuel t cs.toList=some (x.2,p)
 | [],_,_,x,hx=>by simp at hx
 | (n,d) :: r,ps,h,x,hx=>by
  obtain⟨g,t,cs,fuel,p,q,j,l,o,C,i,_⟩:=h;rcases qv.1 hx with rfl|hx
  .grind
  .exact qb6 i x hx
theorem qoL{e n fuel k}(R:P.underlying t=some (.array n e))(T:P.underlying e=some (.int k))(U:P.cellsOf e=1)(o:P.cellsOf t=n){cs}{ns:List Int}{p}
  (h:DataW.trod (fun _=>()) P w 0 (fun _=>true) false fuel t cs=some (.agg (ns.map fun i => .lit (.int k i)),p)):cs=ns.map fun i => .int k i:=by
 obtain⟨r,m,_,hx,J,hn,g⟩:=DataW.trod_array R h;simp only[Prod.mk.injEq,DataW.agg.injEq]at hx;have hx:=hx.1;have C:ns.length=n:=by have:=congrArg List.length hx;simp at this;omega
 rw[o]at J;rw[U]at g;apply List.ext_getElem
 .simp [J,C]
 .intro i h1 h2
  have I:=g i zOm;rw[Nat.mul_one]at I;have j:i<r.length:=zOm;rw[qz j]at I;obtain⟨z,e1,e2,_⟩:=DataW.trod_int T I;have h4:(r[i]).1=DataW.lit (.int k z):=by rw[e2]
  have l:(ns.map fun i=>(DataW.lit (.int k i):DataW Unit))[i]?=(r.map (·.1))[i]?:=by rw[hx]
  rw[zn,zn,qz j,qz zOm]at l;simp only[Option.map_some,qt]at l;rw[h4]at l;simp only[DataW.lit.injEq,Lit.int.injEq,true_and]at l;have h6:(cs.drop i).take 1=[cs[i]]:=by rw[zy h1];rfl
  grind
theorem qoM{name g cs}(hg:P.globalNamed name=some g)(h:w.var? P name=some cs):∃ e i,w.heap[g]?=some (.cells cs e i):=by
 grind [World.var?]
end
end Go.EvW
namespace Go.Proofs.YtfednihcpihlgaaGreatDoor
open Go Go.Ev Go.Proofs Tryz
namespace DT
open Go.EvW Y1 P1 YF
theorem unInt:qc.underlying 3=some (.int .i64):=by kernel_rfl
theorem K0:qc.underlying 4=some .bool:=by kernel_rfl
theorem qoN:qc.underlying 9=some .string:=by kernel_rfl
theorem qoO:qc.underlying 28=some (.slice 3):=by kernel_rfl
theorem qoP:qc.underlying 22=some (.slice 65):=by kernel_rfl
theorem qoQ:qc.underlying 23=some (.slice 67):=by kernel_rfl
theorem qoR:qc.underlying 33=some (.slice 35):=by kernel_rfl
theorem qoS:qc.underlying 120=some (.slice 176):=by kernel_rfl
theorem qoT:qc.underlying 24=some (.slice 122):=by kernel_rfl
theorem qoU:qc.underlying 25=some (.slice 92):=by kernel_rfl
abbrev okI(n:Int):Prop := -9223372036854775808<=n/\n<=9223372036854775807
abbrev okS(s:tC):Prop:=s.size<=140737488351232
instance:Inhabited Nd:=⟨.mk 0 ⟨#[]⟩ 0 [] 0⟩
instance:Inhabited Pd:=⟨⟨⟨#[]⟩,[],default⟩⟩
instance:Inhabited Fld:=⟨⟨⟨#[]⟩,[],false⟩⟩
theorem ZY(N):ShU qc N 3 (fun n:Int=>[aI n]) okI:=
 (ShU.int unInt N).map (fun n=>n) (fun _=>rfl) (fun n h=>by
  grind [Lit.wf,IntKind.min,IntKind.max,IntKind.signed,IntKind.bits])
theorem K1(N):ShU qc N 4 (fun b:Bool=>[aB b]) (fun _=>True):=ShU.bool K0 N
theorem YR(N):ShU qc N 9 (fun s:tC=>[aS s]) okS:=ShU.string qoN N
theorem K2(N):ShU qc N 28 (fun xs:List Int=>[lI xs]) (fun l=>l.length<=140737488351232/\∀ x,x∈l->okI x):=
 ((ShU.slice qoO (ZY N) (fun _ _=>zKr) (Nat.lt_of_lt_of_eq Nat.zero_lt_one zKr) zKr).le zOm).map (fun l=>l) (fun _=>rfl) fun _ h=>h
theorem qoV(N):ShU qc N 67 jZ (fun f=>f.sS.length<=140737488351232/\∀ x,x∈f.sS->okI x):=
 ((ShU.struct (fs:=[(9,0),(28,1),(4,2)]) zKr (.cons' (o':=1) zKr (YR N) (.cons' (o':=2) zKr (K2 N) (.cons' (o':=3) zKr (K1 N) (.nil 3)))) zKr).map
  (fun x=>(⟨x.1,x.2.1,x.2.2.1⟩:Fld)) (fun _=>rfl) (fun x h=>h.2.1)).le zOm
theorem qoW(N):ShU qc N 65 uG (fun s=>okS s.1):=
 ((ShU.struct (fs:=[(9,0),(4,1)]) zKr (.cons' (o':=1) zKr (YR N) (.cons' (o':=2) zKr (K1 N) (.nil 2))) zKr).map
  (fun x=>((x.1,x.2.1):tC×Bool)) (fun _=>rfl) (fun x h=>h.1)).le zOm
theorem Vi:∀ N,ShU qc N 35 cNd (fun _=>True)
 | 0=>fun n i=>absurd i zOm
 | N+1 =>
  have ks:ShU qc N 33 (fun l:List Nd=>[.lst false (l.map cNd)]) (fun _=>True):=((ShU.slice qoR (Vi N) (fun a _=>(Yi a).trans zKr) (Nat.lt_of_lt_of_eq (show 0<5 by omega) zKr) zKr).le zOm).map (fun l=>l) (fun _=>rfl) fun _ _=>trivial
  ((ShU.struct (fs:=[(3,0),(9,1),(3,2),(33,3),(3,4)]) zKr
   (.cons' (o':=1) zKr (ZY N) (.cons' (o':=2) zKr (YR N) (.cons' (o':=3) zKr (ZY N) (.cons' (o':=4) zKr ks (.cons' (o':=5) zKr (ZY N) (.nil 5)))))) zKr)).map
   (fun x=>Nd.mk x.1 x.2.1 x.2.2.1 x.2.2.2.1 x.2.2.2.2.1) (fun x=>by rw[z8];rfl) fun _ _=>trivial
theorem qoX(N):ShU qc N 176 cPm (fun p=>okI p.2):=
 ((ShU.struct (fs:=[(9,0),(3,1)]) zKr (.cons' (o':=1) zKr (YR N) (.cons' (o':=2) zKr (ZY N) (.nil 2))) zKr).map
  (fun x=>((x.1,x.2.1):tC×Int)) (fun _=>rfl) (fun x h=>h.2.1)).le zOm
theorem qoY(N):ShU qc N 120 (fun l:List (tC×Int)=>[lPm l]) (fun l=>l.length<=140737488351232):=
 ((ShU.slice qoS (qoX N) (fun _ _=>zKr) (Nat.lt_of_lt_of_eq (show 0<2 by omega) zKr) zKr).le zOm).map (fun l=>l) (fun _=>rfl) fun _ h=>h.1
theorem qoZ(N):ShU qc N 122 cPd (fun _=>True):=
 ((ShU.struct (fs:=[(9,0),(120,1),(35,2)]) zKr (.cons' (o':=1) zKr (YR N) (.cons' (o':=2) zKr (qoY N) (.cons' (o':=7) zKr (Vi N) (.nil 7)))) zKr).map
  (fun x=>(⟨x.1,x.2.1,x.2.2.1⟩:Pd)) (fun x=>by simp[cPd]) fun _ _=>trivial).le zOm
theorem qo0(N):ShU qc N 92 cFa (fun _=>True):=
 ((ShU.struct (fs:=[(9,0),(35,1)]) zKr (.cons' (o':=1) zKr (YR N) (.cons' (o':=6) zKr (Vi N) (.nil 6))) zKr).map
  (fun x=>((x.1,x.2.1):tC×Nd)) (fun x=>by simp[cFa]) fun _ _=>trivial).le zOm
structure okTA (ts:TS):Prop where
 so:∀ x,x∈ts.sS->okS x.1
 nso:ts.sS.length<=140737488351232
 nf:ts.sA.length<=140737488351232
 fl:∀ f,f∈ts.sA->f.sS.length<=140737488351232/\∀ x,x∈f.sS->okI x
theorem qo1(N):ShU qc N 27 cTS okTA:=by
 have s1:=(ShU.slice qoP (qoW N) (fun _ _=>zKr) (Nat.lt_of_lt_of_eq (show 0<2 by omega) zKr) zKr).le (M:=N) zOm;have i:=(ShU.slice qoQ (qoV N) (fun _ _=>zKr) (Nat.lt_of_lt_of_eq (show 0<3 by omega) zKr) zKr).le (M:=N) zOm;have j:=(ShU.slice qoT (qoZ N) (fun a h=>(Zf a).1.trans zKr) (Nat.lt_of_lt_of_eq (show 0<7 by omega) zKr) zKr).le (M:=N) zOm;have l:=(ShU.slice qoU (qo0 N) (fun a h=>(nJ a).1.trans zKr) (Nat.lt_of_lt_of_eq (show 0<6 by omega) zKr) zKr).le (M:=N) zOm;have U:=ShU.struct (t:=27) (fs:=[(22,0),(23,1),(24,2),(25,3)]) zKr (.cons' (o':=1) zKr s1 (.cons' (o':=2) zKr i (.cons' (o':=3) zKr j (.cons' (o':=4) zKr l (.nil 4))))) zKr;exact(U.map (fun x=>(⟨x.1,x.2.1,x.2.2.1,x.2.2.2.1⟩:TS)) (fun _=>rfl) fun x h=>⟨h.1.2,h.1.1,h.2.1.1,h.2.1.2⟩).le zOm
theorem aNode:ZX qc 35 eNd (fun _=>True):=ZX.struct zKr Vi
theorem unU8:qc.underlying 5=some (.int .u8):=by kernel_rfl
theorem shU8(N):ShU qc N 5 (fun n:Int=>[.sc (.int .u8 n)]) (fun n=>0<=n/\n<=255):=
 (ShU.int unU8 N).map (fun n=>n) (fun _=>rfl) (fun n h=>by
  simp[Lit.wf,IntKind.min,IntKind.max,IntKind.signed,IntKind.bits]at h;exact h)
end DT
namespace QA
def bA:tC:=⟨#[65]⟩
def bf:tC:=⟨#[102]⟩
def bp:tC:=⟨#[112]⟩
end QA
namespace QB
open Y1 Q6 Q9 QA
def nC:Nd := .mk 45 bf 0 [qbI bA 2,.mk 47 bp 0 [qbI bf 5] 3] 1
theorem h47:anyN (fun n=>decide (n.op=47)) nC=true:=by decide +kernel
theorem wkNd(l):WK (.lst true (l.map cNd)) (lNd l):=WK.lst fun r g c i=>by
 obtain⟨n,_,rfl⟩:=qk.1 g;exact vo n c i
def WkR:List (List AV)->List (List AV)->Prop
 | [],[]=>True
 |x :: p,y :: r=>WKs x y/\WkR p r
 |_,_=>False
theorem qb7:∀{xs ys g i},WKs xs ys->WKs g i->WKs (xs++g) (ys++i)
 | [],[],_,_,_,j=>j
 |_ :: _,_ :: _,_,_,⟨h,t⟩,j=>⟨h,qb7 t j⟩
 | [],_ :: _,_,_,h,_=>h.elim
 |_ :: _,[],_,_,h,_=>h.elim
theorem qb8:∀{xs ys},WkR xs ys->ys.length=xs.length/\(∀(k:Nat) x y,xs[k]?=some x->ys[k]?=some y->x.length=y.length)/\WKs xs.flatten ys.flatten
 | [],[],_=>⟨rfl,fun k x y h=>by simp at h,trivial⟩
 |x :: xs,y :: ys,⟨h,t⟩=>by
  obtain⟨j,l,o⟩:=qb8 t;refine⟨zP1 j,fun k a b g i=>?_,by rw[wS,wS];exact qb7 h o⟩;cases k with
  |zero=>simp at g i;subst g;subst i;exact h.get.1.symm
  |succ k=>exact l k a b (zUs g) (zUs i)
 | [],_ :: _,h=>h.elim
 |_ :: _,[],h=>h.elim
theorem YT{full xs ys}(h:WkR xs ys):WK (.lst full xs) (.lst false ys):=by
 obtain⟨l,C,I⟩:=qb8 h;have J:=pN l C;have hg:=I.get.2;intro G hp v r;cases r with
 |nil=>cases ys with
  |nil=>exact .nil _
  |cons=>simp at l
 |emp _ a cap P=>cases ys with
  |nil=>exact .emp _ a cap zSp
  |cons=>simp at l
 |lst _ _ g a cap R e T rd U hs hl P hi o hr hv =>
  rw[<-l];have i:∀(k:Nat) y,ys.flatten[k]?=some y->∃ x,xs.flatten[k]?=some x:=by
   intro k y j;have p:k<ys.flatten.length:=(qi.1 j).1;exact⟨xs.flatten[k]' zOm,by simp only[qz (show k<xs.flatten.length by omega)]⟩
  refine .lst false ys g a cap R e T rd U hs zOm zSp hi ?_ ?_ ?_
  .intro r t
   obtain⟨k,p⟩:=List.mem_iff_getElem?.1 t;have a0:k<ys.length:=(qi.1 p).1;have hx:xs[k]?=some (xs[k]' zOm):=by simp[show k<xs.length by omega]
   rw[<-C k _ r hx p];exact o _ (qZ hx)
  .intro k y j
   obtain⟨x,hx⟩:=i k y j;exact hr k x hx
  .intro k y j
   obtain⟨x,hx⟩:=i k y j;exact hg k x y hx j G hp _ (hv k x hx)
theorem qb9(op nm n){ks l}(p)(h:WK ks (lNd l)):WKs [aI op,aS nm,aI n,ks,aI p] (cNd (.mk op nm n l p)):=by
 rw[z8];exact⟨.hf (HF.sc _),.hf (HF.sc _),.hf (HF.sc _),h,.hf (HF.sc _),trivial⟩
theorem Wa(op nm n){ks l}(p)(h:WK ks (lNd l)):WK (.agg [aI op,aS nm,aI n,ks,aI p]) (eNd (.mk op nm n l p)):=WK.aggs (qb9 op nm n p h)
end QB
namespace PB
open P1 P2 Y1 Y2 Y6 Y9 Y12 YW QB
section
variable {b':Kd}
def Sub(a b:Kd):Prop:=a.ar=b.ar/\∀ t,t∈a.ts->t∈b.ts
theorem qo2{n m a g b b'}(i:∀ t,t∈a->t∈g)(j:∀ t,t∈b->t∈b'):∀ t,t∈uK n m a b->t∈uK n m g b':=fun t l=>by
 grind [Zc]
theorem qo3{n m a g b b'}(i:∀ t,t∈a->t∈g)(j:∀ t,t∈b->t∈b'):∀ t,t∈Qc n m a b->t∈Qc n m g b':=fun t l=>by
 grind [JO]
theorem Wb{a j b}(g:Sub a j)(i:Sub b b'):Sub (zQ a b) (zQ j b'):=by
 refine⟨by simp only[zQ];rw[g.1,i.1],fun t l=>?_⟩;simp only[zQ]at l⊢;rw[<-g.1,<-i.1];exact qo2 g.2 i.2 t l
theorem qo4{a j b}(g:Sub a j)(i:Sub b b'):Sub (uL a b) (uL j b'):=by
 refine⟨by simp only[uL];rw[g.1,i.1],fun t l=>?_⟩;simp only[uL]at l⊢;rw[<-g.1,<-i.1];exact qo3 g.2 i.2 t l
theorem Zp{a b}{t:Tp}:t∈(kSum a b).ts↔t∈a.ts\/t∈b.ts:=by
 show t∈uni (uni [] a.ts) b.ts↔_;rw[vZ,vZ];simp
theorem qcA{a g b}(i:Sub a g)(j:∀ t,t∈b.ts->t∈b'.ts):Sub (kSum a b) (kSum g b'):=
 ⟨i.1,fun t l=>Zp.2 ((Zp.1 l).imp (i.2 t) (j t))⟩
theorem Sub.refl(a):Sub a a:=⟨rfl,fun _ h=>h⟩
theorem Sub.trans{a b c}(h:Sub a b)(k:Sub b c):Sub a c:=⟨h.1.trans k.1,fun t g=>k.2 t (h.2 t g)⟩
theorem K3(a b):Sub a (kSum a b):=⟨rfl,fun t g=>Zp.2 (.inl g)⟩
theorem qo5{a g}(i:Sub a g):Sub (kTr a) (kTr g):=⟨rfl,fun t j=>by
 obtain⟨x,hx,e⟩:=UL.1 j;exact UL.2 ⟨x,i.2 x hx,e⟩⟩
def Wc(k:Kd):Prop:=∀ t,t∈(zQ k k).ts->t∈k.ts
theorem K4:∀ f n a,Sub a (cloN f n a)
 | 0,n,a => .refl a
 |f+1,n,a=>by
  unfold cloN;split
  .exact (K3 a _).trans (K4 f _ _)
  .exact .refl a
theorem K5{S}(i:Wc S):∀ f n a,Sub a S->Sub (cloN f n a) S
 | 0,n,a,h=>h
 |f+1,n,a,h=>by
  unfold cloN;split
  .refine K5 i f _ _ ⟨h.1,fun t g=>?_⟩
   rcases Zp.1 g with g|g
   .exact h.2 t g
   .exact i t ((Wb h h).2 t g)
  .exact h
theorem K6{ns}(o:ns<=4):∀ f n a,okKd ns a->a.ar=2->70<=f+n->(n=0\/∃ p,okKd ns p/\p.ar=2/\n=p.ts.length/\a=kSum p (zQ p p))->Wc (cloN f n a)
 | 0,n,a,g,r,hf,C=>by
  rcases C with rfl|⟨p,hp,_,rfl,_⟩
  .omega
  grind [aJ]
 |f+1,n,a,g,r,hf,C=>by
  unfold cloN;split
  .rename_i P
   have R:okKd ns (zQ a a):=J1 g g zOm zOm;refine K6 o f _ _ (JZ g R (by grind [zQ])) r zOm (.inr ⟨a,g,r,rfl,rfl⟩)
  .rename_i T
   rcases C with rfl|⟨p,hp,U,rfl,rfl⟩
   .have:a.ts=[]:=wR zOm
    intro t i;obtain⟨x,y,⟨hx,_⟩,_⟩:=Zc.1 i
    grind
   .have j:∀ t,t∈(kSum p (zQ p p)).ts->t∈p.ts:=by
     have a0:(kSum p (zQ p p)).ts.Nodup:=g.nd;have a1:∀ t,t∈p.ts->t∈(kSum p (zQ p p)).ts:=(K3 p _).2;intro t i;by_cases I:t∈p.ts
     .exact I
     .exfalso
      have l:(t :: p.ts).Nodup:=vy.2 ⟨I,hp.nd⟩;have:=jT l (l₂:=(kSum p (zQ p p)).ts) (fun x hx=>by
       rcases qv.1 hx with rfl|hx
       .exact i
       grind)
      grind
    intro t i;have J:Sub (kSum p (zQ p p)) p:=⟨rfl,j⟩;exact Zp.2 (.inr ((Wb J J).2 t i))
theorem qo6{ns}(g:ns<=4){a u}(h:Sub a u)(i:okKd ns u)(j:u.ar=2):Sub (kClo a) (kClo u):=
 K5 (K6 g 70 0 u i j zOm (.inl rfl)) 70 0 a (h.trans (K4 70 0 u))
theorem qcB(c):∀ m n s k,szN n<=m->exam c s true n = .ok k->exam c s false n = .ok k
 | 0,n,_,_,C,_=>by obtain⟨op,nm,i,ks,p⟩:=n;simp[szN]at C
 |m+1,n,s,k,C,h=>by
  have J:∀ x,x∈n.sD->∀(s:Scp)(g:Bool)(k:Option Kd),exam c s true x = .ok k->exam c s g x = .ok k:=fun x hx s g k h=>by
   cases g with
   |true=>exact h
   |false=>exact qcB c m x s k (zW1 (yn hx)) h
  have T:∀(l:List Nd),(∀ x,x∈l->x∈n.sD)->∀(s:Scp)(g:Bool)(r:List (Option Kd)),qX c s true l = .ok r->qX c s g l = .ok r:=by
   intro l;induction l with
   |nil=>intro _ s g r h;exact h
   |cons x l P =>
    grind [qX,exam,zj,za]
  rw[yP]at h⊢;simp only[Bool.true_and,Bool.false_and,Bool.true_or,Bool.false_or,Bool.false_eq_true,if_false]at h⊢;split at h
  .cases h
  by_cases R:n.op=1
  .grind
  rw[if_neg R]at h⊢;by_cases h47:n.op=47
  .grind
  rw[if_neg h47]at h⊢;by_cases I:n.op=15\/n.op=45\/n.op=46
  .rw [if_pos I]at h⊢
   cases j:n.sD with
   |nil=>rw[j]at h;exact h
   |cons x l =>
    have o:∀ y,y∈x :: l->y∈n.sD:=fun y U=>by grind
    rw[j]at h;simp only[ym]at h⊢;cases hx:exam c s true x with
    |error e=>grind
    |ok a =>
     rw[hx]at h;rw[J x (o x (zj ..)) s _ a hx];cases a with
     |none=>cases h
     |some a =>
      simp only at h⊢;split at h
      .rename_i t
       rw[if_pos t]
       grind
      .cases h
  rw[if_neg I]at h⊢
  grind
section
variable {ts:TS} (ok:okTS ts) (a b d:Nd)
include ok
end
end
end PB
end Go.Proofs.YtfednihcpihlgaaGreatDoor
