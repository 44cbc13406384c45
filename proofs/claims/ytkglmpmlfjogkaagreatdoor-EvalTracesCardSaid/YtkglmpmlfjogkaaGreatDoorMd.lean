/-
  Own library, part 4: an abstract reading of values and a calculus over it; contracts of functions; plain lemmas.
-/
import Derived.Shelf.Small.Bits
import Derived.Shelf.Strconv.Itoa0
import Derived.Shelf.Strconv.Itoa1
import Derived.Shelf.LaysM
import Derived.Shelf.Strconv.Itoa2
import Derived.Shelf.Strconv.Itoa3
import Derived.Shelf.Sort.Plain
import Derived.Shelf.Bits.Mul64
import Derived.Ground.Names2Prog
import Derived.Shelf.Slices.SearchI
import Derived.Shelf.Slices.In.SortNone
import Derived.Test.YtkglmpmlfjogkaaGreatDoorProg
import Derived.Test.YtkglmpmlfjogkaaGreatDoorMc
set_option linter.unusedVariables false
set_option linter.unusedSimpArgs false
set_option maxRecDepth 100000
open Go.Proofs.Tryz renaming prog->qd
open Go.IntKind renaming i64->qj
open List renaming getElem?_eq_some_iff->qk,getElem?_append_left->qp,range->qq,mem_map->qs,getElem_mem->qu,getElem?_eq_getElem->qv,all_eq_true->qy,mem_cons->qB,getElem?_set_ne->qK,mem_of_getElem?->qS,mem_append->qT,getElem?_append_right->qV,mem_singleton->qW,replicate->qX,getElem?_set_self->zb,drop_eq_getElem_cons->zj,getElem?_map->zk,map_append->zm,not_mem_nil->zr,length_append->zt,take_length->zw,append_nil->zx,append_assoc->zB,mem_range->zI,mem_cons_of_mem->zK,drop_length->zL,getElem?_eq_none->zQ,take_of_length_le->zU,mem_cons_self->zZ,length_cons->z6,map_cons->yd,getElem?_drop->yA,cons_append->yB,length_map->yM,getElem?_take->yN,mem_append_left->yO,nil_append->yP,ext_getElem?->jj,mem_of_mem_take->jV,nodup_append->jY,length_take->jZ,mem_filter->vn,pairwise_cons->vJ,take_append_drop->ud,getElem?_range->ue,mem_iff_getElem->ZY,flatMap_cons->Z0,foldl_append->Z1,mem_flatMap->Z2
open Option.some renaming injEq->qn
open Nat renaming le_refl->qr,le_trans->q7,zero_add->yC,le_of_ble_eq_true->jo,lt_succ_iff_lt_or_eq->jU
open Option renaming map_some->q8,map_eq_some_iff->vo
open Int renaming mul_le_mul->jp,tmod_eq_emod_of_nonneg->wr
open Bool renaming eq_iff_iff->jG
open List.Nodup renaming length_le_of_subset->jH
open List.cons renaming injEq->vp
open Except.ok renaming injEq->vq
namespace Go.Proofs
open Go.Shelf
def Tryz.lays189_ren:Go.Shelf.Ren:=⟨fun|189=>142|125=>193|257=>192|128=>223|129=>224|294=>214|295=>215|296=>216|297=>217|298=>218|299=>219|216=>220|300=>221|301=>222|328=>242|329=>243|330=>244|331=>245|332=>246|215=>247|343=>267|n=>n,fun|28=>28|3=>3|46=>228|0=>0|51=>269|53=>271|4=>4|183=>261|182=>260|131=>266|5=>5|9=>9|218=>288|222=>292|228=>308|229=>309|n=>n,fun|n=>n⟩
theorem Tryz.lays189:Go.Proofs.Lays.n189 qd Tryz.lays189_ren:={
 mixed:=by kernel_rfl
 f125:=func193.trans (congrArg some (by kernel_rfl))
 f128:=func223.trans (congrArg some (by kernel_rfl))
 f129:=func224.trans (congrArg some (by kernel_rfl))
 f189:=func142.trans (congrArg some (by kernel_rfl))
 f215:=func247.trans (congrArg some (by kernel_rfl))
 f216:=func220.trans (congrArg some (by kernel_rfl))
 f257:=func192.trans (congrArg some (by kernel_rfl))
 f294:=func214.trans (congrArg some (by kernel_rfl))
 f295:=func215.trans (congrArg some (by kernel_rfl))
 f296:=func216.trans (congrArg some (by kernel_rfl))
 f297:=func217.trans (congrArg some (by kernel_rfl))
 f298:=func218.trans (congrArg some (by kernel_rfl))
 f299:=func219.trans (congrArg some (by kernel_rfl))
 f300:=func221.trans (congrArg some (by kernel_rfl))
 f301:=func222.trans (congrArg some (by kernel_rfl))
 f328:=func242.trans (congrArg some (by kernel_rfl))
 f329:=func243.trans (congrArg some (by kernel_rfl))
 f330:=func244.trans (congrArg some (by kernel_rfl))
 f331:=func245.trans (congrArg some (by kernel_rfl))
 f332:=func246.trans (congrArg some (by kernel_rfl))
 f343:=func267.trans (congrArg some (by kernel_rfl))
 t0:=Tryz.underlying0
 a0:=Tryz.isAgg0
 z0:=Tryz.sizeOf0
 v0:=Tryz.zeroValue0
 t3:=Tryz.underlying3
 a3:=Tryz.isAgg3
 z3:=Tryz.sizeOf3
 v3:=Tryz.zeroValue3
 t4:=Tryz.underlying4
 a4:=Tryz.isAgg4
 z4:=Tryz.sizeOf4
 v4:=Tryz.zeroValue4
 t5:=Tryz.underlying5
 a5:=Tryz.isAgg5
 z5:=Tryz.sizeOf5
 v5:=Tryz.zeroValue5
 t9:=Tryz.underlying9
 a9:=Tryz.isAgg9
 z9:=Tryz.sizeOf9
 v9:=Tryz.zeroValue9
 t28:=Tryz.underlying28
 a28:=Tryz.isAgg28
 z28:=Tryz.sizeOf28
 v28:=Tryz.zeroValue28
 t46:=Tryz.underlying228
 a46:=Tryz.isAgg228
 z46:=Tryz.sizeOf228
 v46:=Tryz.zeroValue228
 t51:=Tryz.underlying269
 a51:=Tryz.isAgg269
 z51:=Tryz.sizeOf269
 v51:=Tryz.zeroValue269
 t53:=Tryz.underlying271
 a53:=Tryz.isAgg271
 z53:=Tryz.sizeOf271
 v53:=Tryz.zeroValue271
 t131:=Tryz.underlying266
 a131:=Tryz.isAgg266
 z131:=Tryz.sizeOf266
 v131:=Tryz.zeroValue266
 t182:=Tryz.underlying260
 a182:=Tryz.isAgg260
 z182:=Tryz.sizeOf260
 v182:=Tryz.zeroValue260
 t183:=Tryz.underlying261
 a183:=Tryz.isAgg261
 z183:=Tryz.sizeOf261
 v183:=Tryz.zeroValue261
 t218:=Tryz.underlying288
 a218:=Tryz.isAgg288
 z218:=Tryz.sizeOf288
 v218:=Tryz.zeroValue288
 t222:=Tryz.underlying292
 a222:=Tryz.isAgg292
 z222:=Tryz.sizeOf292
 v222:=Tryz.zeroValue292
 t228:=Tryz.underlying308
 a228:=Tryz.isAgg308
 z228:=Tryz.sizeOf308
 v228:=Tryz.zeroValue308
 t229:=Tryz.underlying309
 a229:=Tryz.isAgg309
 z229:=Tryz.sizeOf309
 v229:=Tryz.zeroValue309 }
open Go.Sort Go.RowKit in
theorem Tryz.slices_Sort_int(blk off cap:Nat)(zs:List Int)(w:World)(hH:Holds (Value.int .i64) w blk off zs.toArray)(hblk:blk<w.heap.size)(hsz:zs.length<4611686018427387904) :
  Calls qd 142 #[.slice (some ⟨blk,off,none⟩) zs.length cap] w fun e w' =>
   e = .returned (.tuple #[])/\∃ n os,w'=grow (putRow (Value.int .i64) (Sort.ahead w n) blk off (zs.mergeSort fun x y=>decide (x<=y)).toArray) os:=Any.slices_Sort_int Tryz.lays189 blk off cap zs w hH hblk hsz
def Tryz.lays212_ren:Go.Shelf.Ren:=⟨fun|212=>278|263=>284|264=>285|n=>n,fun|46=>228|51=>269|146=>325|53=>271|148=>327|n=>n,fun|n=>n⟩
theorem Tryz.lays212:Go.Proofs.Lays.n212 qd Tryz.lays212_ren:={
 mixed:=by kernel_rfl
 f212:=func278.trans (congrArg some (by kernel_rfl))
 f263:=func284.trans (congrArg some (by kernel_rfl))
 f264:=func285.trans (congrArg some (by kernel_rfl))
 t46:=Tryz.underlying228
 a46:=Tryz.isAgg228
 z46:=Tryz.sizeOf228
 v46:=Tryz.zeroValue228
 t51:=Tryz.underlying269
 a51:=Tryz.isAgg269
 z51:=Tryz.sizeOf269
 v51:=Tryz.zeroValue269
 t53:=Tryz.underlying271
 a53:=Tryz.isAgg271
 z53:=Tryz.sizeOf271
 v53:=Tryz.zeroValue271
 t146:=Tryz.underlying325
 a146:=Tryz.isAgg325
 z146:=Tryz.sizeOf325
 v146:=Tryz.zeroValue325
 t148:=Tryz.underlying327
 a148:=Tryz.isAgg327
 z148:=Tryz.sizeOf327
 v148:=Tryz.zeroValue327 }
open Go.RowKit Go.Lib in
theorem Tryz.bits_Mul(x y:Nat)(hx:x<18446744073709551616)(hy:y<18446744073709551616)(w:World) :
  Calls qd 278 #[.int .u64 x,.int .u64 y] w fun e w'=>e = .returned (.tuple #[.int .u64 ((x*y / 18446744073709551616:Nat):Int),.int .u64 ((x*y % 18446744073709551616:Nat):Int)])/\w'=w:=Any.bits_Mul Tryz.lays212 x y hx hy w
open Go.RowKit Go.Sort in
theorem Tryz.slices_Sort_int_none(p:Option Addr)(cap:Nat)(w:World) :
  Calls qd 142 #[.slice p 0 cap] w fun e w'=>e = .returned (.tuple #[])/\w'=w:=Any.slices_Sort_int_none Tryz.lays189 p cap w
end Go.Proofs
namespace Go.Proofs.YtkglmpmlfjogkaaGreatDoor
open Go Go.Ev Go.Proofs Tryz
namespace YS
theorem JY(xs:List Int):(xs.map rI).flatten=xs.map aI:=by
 induction xs with
 |nil=>rfl
 |cons x xs ih=>simp[ih]
theorem qc6{lo b n:Nat}{mu:Mu}{xs:List Int}(hb:lo<=b)(hc:mu[b]?=some (.arr (xs.map aI)))(hn:xs.length=n):OwnF lo mu 1 (.sl b 1 0 n) (xs.map rI):=by
 have hl:b<mu.length:=(qk.1 hc).1;refine⟨.inr ⟨b,by simp[hn],by rw[hc,JY]⟩,fun b' s o l e=>?_,by omega⟩;injection e;omega
theorem gPow : qd.globalNamed "internal/strconv.uint64pow10" = some 0 := by kernel_rfl
def itoaB(n:Int):ByteArray:=⟨(Lib.itoa n).toArray⟩
theorem mulB(x y:Nat)(hx:x<18446744073709551616)(hy:y<18446744073709551616) :
  qi qd 278 [.sc (.int .u64 x),.sc (.int .u64 y)] (.tup [.sc (.int .u64 ((x*y / 18446744073709551616:Nat):Int)),.sc (.int .u64 ((x*y % 18446744073709551616:Nat):Int))]):=
 qi.of_still call278 (fun G h us r=>qc4 r) (fun w=>Tryz.bits_Mul x y hx hy w) fun G h => .tup _ _ rfl fun k z hk=>by
  match k with
  | 0=>simp at hk;subst hk;exact .sc _ rfl
  | 1=>simp at hk;subst hk;exact .sc _ rfl
  |k+2=>simp at hk
theorem K7{n:Int}(h0:0<=n)(h1:n<=18446744073709551615):IntKind.u64.wrap n=n:=IntWalk.u64_in n ⟨h0,h1⟩
theorem qc7{mu:Mu}{b off len:Nat}{cells:List AV}(hc:mu[b]?=some (.arr cells))(hl:off+len<=cells.length):qG mu (.sl b 1 off len)=some (((cells.drop off).take len).map fun c=>[c]):=by
 simp only[qG,hc];rw[if_pos (by omega)];congr 1;apply jj;intro i;by_cases hi:i<len
 .simp only[zk,ue hi,q8,Nat.mul_one]
  rw[yN,if_pos hi,yA,qv (show off+i<cells.length by omega)];rw[zj (show off+i<cells.length by omega)];rfl
 .rw [zQ (by simp;omega),zQ (by simp;omega)]
theorem qc8(l:List AV):(l.map fun c=>[c]).flatten=l:=by
 induction l with
 |nil=>rfl
 |cons x l ih=>simp only[yd,List.flatten_cons,ih];rfl
theorem qc9{l:List AV}(h:∀ c,c∈l->c.one=true):zh 1 (l.map fun c=>[c]):=fun r hr=>by
 obtain⟨c,hc,rfl⟩:=qs.1 hr;exact⟨rfl,by simp[h c hc]⟩
def rep(s:Int)(k m:Nat):List AV:=qX m (aI s)++qX (k-m) (aI 0)
theorem UI(s:Int)(k m:Nat)(h:m<=k):(rep s k m).length=k:=by simp[rep];omega
theorem K8(s:Int)(k m j:Nat)(h:j<=m):(rep s k m).take j=qX j (aI s):=by
 rw[rep,List.take_append_of_le_length (by simpa using h),List.take_replicate,Nat.min_eq_left h]
theorem K9(s:Int)(k m j:Nat)(hm:m<=k)(h:m+j<=k):putCells (rep s k m) m (qX j (aI s))=rep s k (m+j):=by
 rw[yX _ _ _ (by rw[UI _ _ _ hm];simpa using h)];rw[K8 _ _ _ _ (qr m),List.replicate_append_replicate];have:List.drop (m+(qX j (aI s)).length) (rep s k m)=qX (k-(m+j)) (aI 0):=by
  rw[rep,List.length_replicate,List.drop_append,List.drop_of_length_le (by simp),yP,List.length_replicate,List.drop_replicate];congr 1;omega
 rw[this];rfl
theorem qdA(s:Int)(k:Nat)(hk:k<=5):qi qd 271 [lI [s],aI k] (lI (qX k s)):=by
 refine qSQ call271 func271 rfl {} ?_;have w1:IntKind.u64.wrap (k:Int)=k:=K7 (by omega) (by omega);have w2:IntKind.u64.wrap 1=1:=K7 (by omega) (by omega);have w3:qj.wrap (k:Int)=k:=qg (by omega) (by omega);simp[go_sem,show ¬(k:Int)<0 by omega,w1,w2];refine qb.pure (mulB 1 k (by omega) (by omega)) (.cons (.hf (HF.sc _)) (.cons (.hf (HF.sc _)) .nil)) ?_;rw[show 1*k / 18446744073709551616=0 by omega,show 1*k % 18446744073709551616=k by omega];simp[go_sem,show ¬(9223372036854775807:Int)<k by omega,w3,show (k:Int)<=4294967296 by omega];refine Ut (ys:=[[aI s]]) (by simp[go_sem]) rfl (by simp) rfl (uT [s]) ?_;have e0:putCells (qX k (aI 0)) 0 (([[aI s]]:List (List AV)).take k).flatten=rep s k (min 1 k):=by
  have:=K9 s k 0 (min 1 k) (by omega) (by omega);rw[yC]at this;rw[<-this];cases k with
  |zero=>rfl
  |succ k=>rw[show min 1 (k+1)=1 by omega];simp[rep]
 simp only[e0];simp[go_sem];refine ql.keep (fun n st=>∃ m,n=k-m/\m<=k/\(k=m\/1<=m)/\st.tm 7 = .sl 0 1 0 k/\st.tm 8=aI m/\st.mu=[.arr (rep s k m)]) (k-min 1 k) ?_ ?_
 .exact ⟨min 1 k,rfl,by omega,by omega,by simp[go_sem],by simp[go_sem],by simp[go_sem]⟩
 rintro n st ⟨m,rfl,hm,hm1,e7,e8,em⟩;by_cases hlt:m<k
 .have hc:qG [.arr (rep s k m)] (.sl 0 1 0 m)=some ((qX m (aI s)).map fun c=>[c]):=by
   rw[qc7 (cells:=rep s k m) rfl (by rw[UI _ _ _ hm];omega)];rw[List.drop_zero,K8 _ _ _ _ (qr m)]
  simp[go_sem,e7,e8,em,hlt,show m<=k by omega];refine qe.intro (by kernel_rfl) ?_;simp[go_sem,e7,e8,em,hlt,show m<=k by omega];refine Ut (cells:=rep s k m) (by simp[go_sem]) rfl (by rw[UI _ _ _ hm];omega) hc (qc9 fun c hc=>by rw[List.eq_of_mem_replicate hc];rfl) ?_;have e1:putCells (rep s k m) m ((((qX m (aI s)).map fun c=>[c]).take (k-m)).flatten)=rep s k (m+min m (k-m)):=by
   rw[<-List.map_take,qc8,List.take_replicate,Nat.min_comm];exact K9 s k m _ hm (by omega)
  simp only[e1];simp[go_sem,e7,e8,em];refine Keep.loop (k-(m+min m (k-m))) (by omega) ⟨m+min m (k-m),rfl,by omega,by omega,by simp[go_sem,e7],?_,by simp[go_sem]⟩;simp[go_sem];rw[qg (by omega) (by omega)]
 .obtain rfl:m=k:=by omega
  simp[go_sem,e7,e8,em];have:rep s m m=(qX m s).map aI:=by simp[rep]
  rw[this];exact(qc6 (lo:=0) (mu:=[.arr ((qX m s).map aI)]) (b:=0) (Nat.zero_le _) rfl (by simp)).rdI
end YS
namespace YF
open Y1 P1
abbrev cPm(p:ByteArray×Int):List AV:=[aS p.1,aI p.2]
abbrev lPm(l:List (ByteArray×Int)):AV := .lst false (l.map cPm)
abbrev cPd(p:Pd):List AV:=aS p.name :: lPm p.params :: cNd p.body
abbrev lPd(l:List Pd):AV := .lst false (l.map cPd)
abbrev cFa(f:ByteArray×Nd):List AV:=aS f.1 :: cNd f.2
abbrev lSo(l:List (ByteArray×Bool)):AV := .lst false (l.map Zr)
abbrev lFl(l:List Fld):AV := .lst false (l.map uo)
abbrev lFa(l:List (ByteArray×Nd)):AV := .lst false (l.map cFa)
abbrev cTS(s:TS):List AV:=[lSo s.sorts,lFl s.fields,lPd s.preds,lFa s.facts]
abbrev eTS(s:TS):AV := .agg (cTS s)
theorem JZ(p:ByteArray×Int):∀ c,c∈cPm p->HF c:=by
 intro c hc;simp at hc;rcases hc with rfl|rfl<;>exact HF.sc _
theorem yH(l:List (ByteArray×Int)):HF (lPm l):=HF.lst fun r hr c hc=>by
 obtain⟨p,_,rfl⟩:=qs.1 hr;exact JZ p c hc
theorem UJ(p:Pd):∀ c,c∈cPd p->HF c:=by
 intro c hc;simp only[cPd,qB]at hc;rcases hc with rfl|rfl|hc
 .exact HF.sc _
 .exact yH _
 .exact vz p.body c hc
theorem wI(l:List Pd):HF (lPd l):=HF.lst fun r hr c hc=>by
 obtain⟨p,_,rfl⟩:=qs.1 hr;exact UJ p c hc
theorem qdB(p:ByteArray×Nd):∀ c,c∈cFa p->HF c:=by
 intro c hc;simp only[cFa,qB]at hc;rcases hc with rfl|hc
 .exact HF.sc _
 .exact vz p.2 c hc
theorem Ys(l:List (ByteArray×Nd)):HF (lFa l):=HF.lst fun r hr c hc=>by
 obtain⟨p,_,rfl⟩:=qs.1 hr;exact qdB p c hc
theorem qdC(p:ByteArray×Bool):∀ c,c∈Zr p->HF c:=by
 intro c hc;simp at hc;rcases hc with rfl|rfl<;>exact HF.sc _
theorem J0(l:List (ByteArray×Bool)):HF (lSo l):=HF.lst fun r hr c hc=>by
 obtain⟨p,_,rfl⟩:=qs.1 hr;exact qdC p c hc
theorem J1(l:List Fld):HF (lFl l):=HF.lst fun r hr c hc=>by
 obtain⟨p,_,rfl⟩:=qs.1 hr;exact Uu p c hc
theorem kc(s:TS):∀ c,c∈cTS s->HF c:=by
 intro c hc;simp only[cTS,qB,zr,or_false]at hc;rcases hc with rfl|rfl|rfl|rfl
 .exact J0 _
 .exact J1 _
 .exact wI _
 .exact Ys _
theorem zl(s:TS):HF (eTS s):=HF.agg (kc s)
theorem qdD(n:Nd):(cNd n).length=5/\(cNd n).all AV.one=true:=⟨Zt n,Zu n⟩
theorem vC(p:Pd):(cPd p).length=7/\(cPd p).all AV.one=true:=⟨by simp[cPd,Zt],by simp only[cPd,List.all_cons,Zu];rfl⟩
theorem kh(p:ByteArray×Nd):(cFa p).length=6/\(cFa p).all AV.one=true:=⟨by simp[cFa,Zt],by simp only[cFa,List.all_cons,Zu];rfl⟩
def J2(P:Program)(fv:AV){α:Type}(xs:List α)(enc:α->AV)(g:α->Bool):Prop:=
 ∃ f first caps,fv = .fn (.func f) first caps/\∀ x,x∈xs->∃ args',qi P f args' (aB (g x))/\WKs (first++[enc x]++caps) args'
def idxI{α:Type}(xs:List α)(g:α->Bool):Int:=match xs.findIdx? g with|some i=>i|none => -1
theorem ki{α:Type}{xs:List α}{g:α->Bool}{k:Nat}(hk:k<xs.length)(hg:g xs[k]=true)(hb:∀(j:Nat) (h:j<xs.length),j<k->g xs[j]=false):idxI xs g=k:=by
 unfold idxI;have:xs.findIdx? g=some k:=by
  rw[List.findIdx?_eq_some_iff_getElem];exact⟨hk,hg,fun j hj=>by rw[hb j (by omega) hj];simp⟩
 rw[this]
theorem kj{α:Type}{xs:List α}{g:α->Bool}(hb:∀(j:Nat) (h:j<xs.length),g xs[j]=false):idxI xs g = -1:=by
 unfold idxI;have:xs.findIdx? g=none:=by
  rw[List.findIdx?_eq_none_iff];intro x hx;obtain⟨j,hj,rfl⟩:=ZY.1 hx;exact hb j hj
 rw[this]
theorem kl{α:Type}(xs:List α)(g:α->Bool):decide (0<=idxI xs g)=xs.any g:=by
 unfold idxI;cases h:xs.findIdx? g with
 |none =>
  rw[List.findIdx?_eq_none_iff]at h;have:xs.any g=false:=by
   rw[<-Bool.not_eq_true,List.any_eq_true];rintro⟨x,hx,hg⟩;rw[h x hx]at hg;exact absurd hg (by simp)
  rw[this];rfl
 |some i =>
  rw[List.findIdx?_eq_some_iff_getElem]at h;obtain⟨hi,hg,_⟩:=h;have:xs.any g=true:=List.any_eq_true.2 ⟨_,qu hi,hg⟩;rw[this];simp
theorem idxNd(full:Bool)(xs:List (Nd))(fv:AV)(g:Nd->Bool)(hf:J2 qd fv xs (fun x => .agg (cNd x)) g)(hl:xs.length<=1000000000000):qi qd 256 [.lst full (xs.map cNd),fv] (aI (idxI xs g)):=by
 refine qSQ call256 func256 rfl {} ?_;obtain⟨f,first,caps,rfl,hf⟩:=hf;simp[go_sem];refine ql.up xs.length (fun k st=>st.tm 0 = .lst full (xs.map cNd)/\st.tm 1 = .fn (.func f) first caps/\st.tm 6 = .lst full (xs.map cNd)/\st.tm 7=aI xs.length/\st.tm 8=aI k/\st.mu=[]/\∀(j:Nat) (h:j<xs.length),j<k->g xs[j]=false) ?_ ?_
 .simp [go_sem]
 .rintro k st hk ⟨e0,e1,e6,e7,e8,hm,hb⟩
  by_cases he:k=xs.length
  .subst he
   simp[go_sem,e0,e1,e6,e7,e8,hm];rw[kj (fun j h=>hb j h h)];exact .hf _ (HF.sc _)
  .have hlt:k<xs.length:=by omega
   obtain⟨args',hs,hw⟩:=hf xs[k] (qu hlt);have hw':=qg (n:=((k+1:Nat):Int)) (by omega) (by omega);simp[go_sem,e0,e1,e6,e7,e8,hm,hlt,qdD xs[k],qo];refine .inl ⟨_,.inl ⟨f,first,caps,args',rfl,hs,.inl hw⟩,?_⟩;cases hg:g xs[k] with
   |true =>
    simp[go_sem,e0,e1,e6,e7,e8,hm];rw[ki hlt hg (fun j h hj=>hb j h hj)];exact .hf _ (HF.sc _)
   |false =>
    simp[go_sem,e0,e1,e6,e7,e8,hm,hlt];simp at hw';refine⟨hw',fun j h hj=>?_⟩;by_cases hjk:j=k
    .subst hjk;exact hg
    .exact hb j h (by omega)
theorem hasNd(full:Bool)(xs:List (Nd))(fv:AV)(g:Nd->Bool)(hf:J2 qd fv xs (fun x => .agg (cNd x)) g)(hh:HF fv)(hh2:HF (.lst full (xs.map cNd)))(hl:xs.length<=1000000000000):qi qd 236 [.lst full (xs.map cNd),fv] (aB (xs.any g)):=by
 refine qSQ call236 func236 rfl {} ?_;simp[go_sem];refine qb.pure (idxNd full xs fv g hf hl) (.cons (.hf hh2) (.cons (.hf hh) .nil)) ?_;simp[go_sem];rw[kl];exact .hf _ (HF.sc _)
theorem kn(full:Bool)(xs:List (Pd))(fv:AV)(g:Pd->Bool)(hf:J2 qd fv xs (fun x => .agg (cPd x)) g)(hl:xs.length<=1000000000000):qi qd 187 [.lst full (xs.map cPd),fv] (aI (idxI xs g)):=by
 refine qSQ call187 func187 rfl {} ?_;obtain⟨f,first,caps,rfl,hf⟩:=hf;simp[go_sem];refine ql.up xs.length (fun k st=>st.tm 0 = .lst full (xs.map cPd)/\st.tm 1 = .fn (.func f) first caps/\st.tm 6 = .lst full (xs.map cPd)/\st.tm 7=aI xs.length/\st.tm 8=aI k/\st.mu=[]/\∀(j:Nat) (h:j<xs.length),j<k->g xs[j]=false) ?_ ?_
 .simp [go_sem]
 .rintro k st hk ⟨e0,e1,e6,e7,e8,hm,hb⟩
  by_cases he:k=xs.length
  .subst he
   simp[go_sem,e0,e1,e6,e7,e8,hm];rw[kj (fun j h=>hb j h h)];exact .hf _ (HF.sc _)
  .have hlt:k<xs.length:=by omega
   obtain⟨args',hs,hw⟩:=hf xs[k] (qu hlt);have hw':=qg (n:=((k+1:Nat):Int)) (by omega) (by omega);simp[go_sem,e0,e1,e6,e7,e8,hm,hlt,vC xs[k],qo];refine .inl ⟨_,.inl ⟨f,first,caps,args',rfl,hs,.inl hw⟩,?_⟩;cases hg:g xs[k] with
   |true =>
    simp[go_sem,e0,e1,e6,e7,e8,hm];rw[ki hlt hg (fun j h hj=>hb j h hj)];exact .hf _ (HF.sc _)
   |false =>
    simp[go_sem,e0,e1,e6,e7,e8,hm,hlt];simp at hw';refine⟨hw',fun j h hj=>?_⟩;by_cases hjk:j=k
    .subst hjk;exact hg
    .exact hb j h (by omega)
theorem hasPd(full:Bool)(xs:List (Pd))(fv:AV)(g:Pd->Bool)(hf:J2 qd fv xs (fun x => .agg (cPd x)) g)(hh:HF fv)(hh2:HF (.lst full (xs.map cPd)))(hl:xs.length<=1000000000000):qi qd 259 [.lst full (xs.map cPd),fv] (aB (xs.any g)):=by
 refine qSQ call259 func259 rfl {} ?_;simp[go_sem];refine qb.pure (kn full xs fv g hf hl) (.cons (.hf hh2) (.cons (.hf hh) .nil)) ?_;simp[go_sem];rw[kl];exact .hf _ (HF.sc _)
end YF
namespace Y9
open Y1 Y2 P1 YF
abbrev cCk(c:Ck):List AV:=[lSo c.ts.sorts,lFl c.ts.fields,lPd c.ts.preds,lFa c.ts.facts,aI c.calls,.lst false (c.timed.map fun b=>[aB b])]
abbrev eCk(c:Ck):AV := .ip (cCk c)
theorem yV(c:Ck):HF (eCk c):=HF.ip fun x hx=>by
 simp only[cCk,qB,zr,or_false]at hx;rcases hx with rfl|rfl|rfl|rfl|rfl|rfl
 .exact J0 _
 .exact J1 _
 .exact wI _
 .exact Ys _
 .exact HF.sc _
 .exact HF.lst fun r hr c hc=>by
   obtain⟨b,_,rfl⟩:=qs.1 hr;simp at hc;subst hc;exact HF.sc _
structure okTS (s:TS):Prop where
 ns:s.sorts.length<=4
 nf:s.fields.length<=6
 np:s.preds.length<=8
 nfa:s.facts.length<=16
 sl:∀ x,x∈s.sorts->x.1.size<=4611686018427387904
 fl:∀ f,f∈s.fields->1<=f.sorts.length/\f.sorts.length<=3/\∀ x,x∈f.sorts->0<=x/\x<s.sorts.length
 pl:∀ p,p∈s.preds->p.params.length<=8/\∀ x,x∈p.params->0<=x.2/\x.2<s.sorts.length
structure okCk (c:Ck):Prop where
 ts:okTS c.ts
 calls:c.calls<=c.ts.preds.length
 timed:c.calls<=c.timed.length
theorem qdE(p:Pd)(nm:ByteArray):qi qd 269 [.agg (cPd p),.ip [aS nm]] (aB (decide (p.name=nm))):=by
 refine qSQ call269 func269 rfl {} ?_;by_cases h:p.name=nm
 .simp [go_sem,h]
  exact .hf _ (HF.sc _)
 .simp [go_sem,h,vd h]
  exact .hf _ (HF.sc _)
theorem kq(c:Ck)(hc:okCk c)(nm:ByteArray):qi qd 255 [eCk c,aS nm] (aI (match zD c nm with|some i=>i|none => -1)):=by
 refine qSQ call255 func255 rfl {} ?_;simp[go_sem];refine qe.intro (by kernel_rfl) ?_;have hcl:=hc.calls;have hnp:=hc.ts.np;have htk:List.take c.calls (c.ts.preds.map cPd)=(c.ts.preds.take c.calls).map cPd:=by rw[List.map_take]
 simp[go_sem,show (c.calls:Int)<=c.ts.preds.length by omega];refine⟨⟨_,_,⟨rfl,rfl⟩,fun r hr=>by obtain⟨p,_,rfl⟩:=qs.1 hr;exact(vC p).1⟩,?_⟩;rw[htk];have hfn:HF (.fn (.func 269) [] [.ip [aS nm]]):=HF.fn (by simp) (fun x hx=>by simp at hx;subst hx;exact HF.ip fun y hy=>by simp at hy;subst hy;exact HF.sc _);refine qb.pure (kn false (c.ts.preds.take c.calls) _ (fun p=>decide (p.name=nm)) ⟨_,_,_,rfl,fun p hp=>⟨_,qdE p nm,.cons (.hf (HF.agg (UJ p))) (.cons (.hf (HF.ip fun y hy=>by simp at hy;subst hy;exact HF.sc _)) .nil)⟩⟩ (by simp;omega)) (.cons (.hf (wI _)) (.cons (.hf hfn) .nil)) ?_;simp[go_sem];exact .hf _ (HF.sc _)
theorem Yt{c:Ck}(hc:okCk c){nm:ByteArray}{p:Nat}(h:zD c nm=some p):p<c.calls/\p<c.ts.preds.length:=by
 unfold zD at h;rw[List.findIdx?_eq_some_iff_getElem]at h;obtain⟨hp,_⟩:=h;simp at hp;omega
theorem ku(c:Ck)(hc:okCk c)(n:Nd):qi qd 235 [eCk c,eNd n] (aB (yw c n.op n.name)):=by
 refine qSQ call235 func235 rfl {} ?_;unfold yw zX;by_cases h5:n.op=5
 .simp [go_sem,h5];exact .hf _ (HF.sc _)
 by_cases h48:n.op=48
 .simp [go_sem,h48];exact .hf _ (HF.sc _)
 by_cases h49:n.op=49
 .simp [go_sem,h49];exact .hf _ (HF.sc _)
 by_cases h50:n.op=50
 .simp [go_sem,h50];exact .hf _ (HF.sc _)
 by_cases h51:n.op=51
 .simp [go_sem,h51];exact .hf _ (HF.sc _)
 by_cases h47:n.op=47
 .simp [go_sem,h47]
  refine qb.pure (kq c hc n.name) (.cons (.hf (yV c)) (.cons (.hf (HF.sc _)) .nil)) ?_;cases hq:zD c n.name with
  |none =>
   simp[go_sem];exact .hf _ (HF.sc _)
  |some p =>
   obtain⟨h1,h2⟩:=Yt hc hq;have h3:p<c.timed.length:=Nat.lt_of_lt_of_le h1 hc.timed;simp[go_sem,h3];exact .hf _ (HF.sc _)
 .simp [go_sem,h5,h48,h49,h50,h51,h47]
  exact .hf _ (HF.sc _)
theorem kv(c:Ck):∀ ks:List Nd,JQ c ks=ks.any (yh c)
 | []=>rfl
 |k :: ks=>by simp[JQ,kv c ks]
noncomputable abbrev szN(n:Nd):Nat:=SizeOf.sizeOf n
theorem yi{n k:Nd}(h:k∈n.kids):szN k<szN n:=by
 obtain⟨op,nm,i,ks,p⟩:=n;have:SizeOf.sizeOf k<SizeOf.sizeOf ks:=List.sizeOf_lt_of_mem h;simp only[szN,Nd.mk.sizeOf_spec];omega
inductive Small:Nd->Prop where
 |mk (n:Nd) (h:n.kids.length<=1000) (hk:∀ k,k∈n.kids->Small k):Small n
theorem Small.len{n:Nd}(h:Small n):n.kids.length<=1000:=by cases h;assumption
theorem Small.kid{n k:Nd}(h:Small n)(hk:k∈n.kids):Small k:=by
 cases h with
 |mk _ _ h=>exact h k hk
theorem kw(c:Ck)(n:Nd):yh c n=(yw c n.op n.name||n.kids.any (yh c)):=by
 obtain⟨op,nm,i,ks,p⟩:=n;simp[yh,kv,Nd.op,Nd.name,Nd.kids]
theorem kx(c:Ck)(hc:okCk c):∀(m:Nat) (n:Nd),szN n<=m->Small n->qi qd 208 [eCk c,eNd n] (aB (yh c n))
 | 0,n,hm,_=>by obtain⟨op,nm,i,ks,p⟩:=n;simp[szN]at hm
 |m+1,n,hm,hs=>by
  refine qSQ call208 func208 rfl {} ?_;rw[kw];simp[go_sem];refine qb.pure (ku c hc n) (.cons (.hf (yV c)) (.cons (.hf (qI n)) .nil)) ?_;cases ht:yw c n.op n.name with
  |true =>
   simp[go_sem];exact .hf _ (HF.sc _)
  |false =>
   simp[go_sem];have hfn:HF (.fn (.func 208) [eCk c] []):=HF.fn (fun x hx=>by simp at hx;subst hx;exact yV c) (by simp);refine qb.pure (hasNd false n.kids _ (yh c) ⟨_,_,_,rfl,fun k hk=>⟨_,kx c hc m k (by have:=yi hk;omega) (hs.kid hk),.cons (.hf (yV c)) (.cons (.hf (qI k)) .nil)⟩⟩ hfn (JP _) (by have:=hs.len;omega)) (.cons (.hf (JP _)) (.cons (.hf hfn) .nil)) ?_;simp[go_sem];exact .hf _ (HF.sc _)
end Y9
namespace E1
theorem J3{n:Int}(h0:0<=n)(h1:n<=20):∀ i:Nat,i<=3->0<=n ^ i/\n ^ i<=8000:=by
 have a1:0<=n*n:=Int.mul_nonneg h0 h0;have a2:n*n<=20*20:=jp h1 h1 h0 (by omega);have a3:0<=n*n*n:=Int.mul_nonneg a1 h0;have a4:n*n*n<=20*20*20:=jp a2 h1 h0 (by omega);intro i hi
 match i,hi with
 | 0,_=>rw[Int.pow_zero];omega
 | 1,_=>rw[Int.pow_succ,Int.pow_zero];omega
 | 2,_=>rw[Int.pow_succ,Int.pow_succ,Int.pow_zero,Int.one_mul];omega
 | 3,_=>rw[Int.pow_succ,Int.pow_succ,Int.pow_succ,Int.pow_zero,Int.one_mul];omega
def powN(k:Int):Nat:=(min k 3).toNat
def powI(n k:Int):Int:=n ^ powN k
def zY(l:List Int):Prop:=l.Pairwise (·<·)
instance (l:List Int):Decidable (zY l):=inferInstanceAs (Decidable (l.Pairwise (·<·)))
theorem qdF{l:List Int}(h:∀(i:Nat) (h:i+1<l.length),l[i]<l[i+1]):zY l:=by
 unfold zY;induction l with
 |nil=>exact .nil
 |cons a l ih =>
  have ih:=ih fun i hi=>by
   have:=h (i+1) (by simpa using hi);rw[List.getElem_cons_succ,List.getElem_cons_succ]at this;exact this
  refine vJ.2 ⟨?_,ih⟩;cases l with
  |nil=>simp
  |cons b l =>
   have h0:=h 0 (by simp);simp at h0;intro c hc;rcases qB.1 hc with rfl|hc
   .exact h0
   .have:=(vJ.1 ih).1 c hc
    omega
theorem qdG{l:List Int}(h:zY l){i j:Nat}(hij:i<j)(hj:j<l.length):l[i]'(by omega)<l[j]:=List.pairwise_iff_getElem.1 h i j (by omega) hj hij
def yW(n:Int)(r:Rl):Bool:=decide (0<=n)&&decide (n<=12)&&decide (1<=r.ar)&&decide (r.ar<=3)&&r.ts.all (fun t=>decide (0<=t)&&decide (t<powI n r.ar))&&decide (zY r.ts)
theorem J4{l:List Int}(h:zY l):l.Nodup:=List.Pairwise.imp (fun h e=>by omega) h
theorem ky{l m:List Int}(h1:zY l)(h2:zY m)(h:∀ x,x∈l↔x∈m):l=m:=
 List.Perm.eq_of_pairwise (le:=fun a b:Int=>a<b) (fun a b _ _ h1 h2=>by omega) h1 h2 ((List.perm_ext_iff_of_nodup (J4 h1) (J4 h2)).2 h)
def atN(l:List Int)(r:Int):Nat->Nat
 | 0=>0
 |n+1=>if r<=gI l n then atN l r n else n+1
theorem kz(l:List Int)(r:Int):∀ n,atN l r n<=n
 | 0=>qr _
 |n+1=>by
  have:=kz l r n;rw[atN];split<;>omega
def addL(l:List Int)(r:Int):List Int:=if l[atN l r l.length]?=some r then l else l.take (atN l r l.length)++[r]++l.drop (atN l r l.length)
def ofL(ts:List Int):List Int:=ts.foldl addL []
theorem kA(l:List Int)(r:Int):∀ n,(∀ i,atN l r n<=i->i<n->r<=gI l i)/\(0<atN l r n->gI l (atN l r n-1)<r)
 | 0=>⟨fun i _ h=>by omega,fun h=>by simp[atN]at h⟩
 |n+1=>by
  obtain⟨h1,h2⟩:=kA l r n;rw[atN];by_cases h:r<=gI l n
  .rw [if_pos h]
   refine⟨fun i hi hn=>?_,h2⟩;by_cases e:i=n
   .rw [e];exact h
   .exact h1 i hi (by omega)
  .rw [if_neg h]
   exact⟨fun i hi hn=>by omega,fun _=>by simp;omega⟩
theorem qdH{l:List Int}(hs:zY l)(r:Int):zY (addL l r)/\∀ x,x∈addL l r↔x∈l\/x=r:=by
 obtain⟨h1,h2⟩:=kA l r l.length;have hk:=kz l r l.length;unfold addL;generalize atN l r l.length=k at *
 by_cases hc:l[k]?=some r
 .rw [if_pos hc]
  exact⟨hs,fun x=>⟨.inl,fun h=>h.elim id fun e=>by rw[e];exact qS hc⟩⟩
 .rw [if_neg hc]
  have hsl:∀ i j (hi:i<l.length) (hj:j<l.length),i<j->l[i]<l[j]:=fun i j hi hj hij=>List.pairwise_iff_getElem.1 hs i j hi hj hij
  have lo:∀ x,x∈l.take k->x<r:=by
   intro x hx;obtain⟨i,hi,e⟩:=ZY.1 hx;rw[List.getElem_take]at e;have hik:i<k:=by simp at hi;omega
   have:=h2 (by omega);rw[Qd (by omega)]at this;by_cases e2:i=k-1
   .subst e2;omega
   .have:=hsl i (k-1) (by omega) (by omega) (by omega);omega
  have hi:∀ x,x∈l.drop k->r<x:=by
   intro x hx;obtain⟨i,hi,e⟩:=ZY.1 hx;rw[List.getElem_drop]at e;have hil:k+i<l.length:=by simp at hi;omega
   have h0:=h1 k (by omega) (by omega);rw[Qd (by omega)]at h0;have hne:l[k]'(by omega)≠r:=fun e=>hc (by rw[qv (by omega),e])
   by_cases e2:i=0
   .subst e2;simp at e;omega
   .have:=hsl k (k+i) (by omega) hil (by omega);omega
  refine⟨?_,fun x=>?_⟩
  .unfold zY at *
   rw[zB,List.pairwise_append];refine⟨hs.sublist (List.take_sublist _ _),?_,fun a ha b hb=>?_⟩
   .rw [List.singleton_append,vJ]
    exact⟨hi,hs.sublist (List.drop_sublist _ _)⟩
   .rw [List.singleton_append,qB]at hb
    have:=lo a ha;rcases hb with e|hb
    .omega
    .have:=hi b hb;omega
  .have:x∈l↔x∈l.take k\/x∈l.drop k:=by
    rw[<-qT,ud]
   rw[this,qT,qT,qW];constructor
   .rintro ((h|h)|h)
    .exact .inl (.inl h)
    .exact .inr h
    .exact .inl (.inr h)
   .rintro ((h|h)|h)
    .exact .inl (.inl h)
    .exact .inr h
    .exact .inl (.inr h)
theorem kB:∀(ts l:List Int),zY l->zY (ts.foldl addL l)/\∀ x,x∈ts.foldl addL l↔x∈l\/x∈ts
 | [],l,h=>⟨h,fun x=>by simp⟩
 |t :: ts,l,h=>by
  obtain⟨h1,h2⟩:=qdH h t;obtain⟨h3,h4⟩:=kB ts _ h1;refine⟨h3,fun x=>?_⟩;rw[List.foldl_cons,h4,h2,qB];constructor
  .rintro ((h|h)|h)
   .exact .inl h
   .exact .inr (.inl h)
   .exact .inr (.inr h)
  .rintro (h|h|h)
   .exact .inl (.inl h)
   .exact .inl (.inr h)
   .exact .inr h
theorem J5(ts:List Int):zY (ofL ts)/\∀ x,x∈ofL ts↔x∈ts:=by
 obtain⟨h1,h2⟩:=kB ts [] (by unfold zY;exact .nil);exact⟨h1,fun x=>by rw[ofL,h2];simp⟩
structure GR (n:Int) (r:Rl):Prop where
 ar1:1<=r.ar
 ar3:r.ar<=3
 val:∀ t,t∈r.ts->0<=t/\t<powI n r.ar
 srt:zY r.ts
def unR(a b:Rl):Rl:=⟨a.ar,ofL (a.ts++b.ts)⟩
def inR(a b:Rl):Rl:=⟨a.ar,a.ts.filter fun t=>decide (t∈b.ts)⟩
def diR(a b:Rl):Rl:=⟨a.ar,a.ts.filter fun t=>decide (¬t∈b.ts)⟩
def prL(m:Int)(x y:List Int):List Int:=x.flatMap fun s=>y.map fun t=>s*m+t
def prR(n:Int)(a b:Rl):Rl:=⟨a.ar+b.ar,prL (powI n b.ar) a.ts b.ts⟩
def joL(n m:Int)(x y:List Int):List Int:=x.flatMap fun s=>(y.filter fun t=>decide (t / m=s % n)).map fun t=>s / n*m+t % m
def joR(n:Int)(a b:Rl):Rl:=⟨a.ar+b.ar-2,ofL (joL n (powI n (b.ar-1)) a.ts b.ts)⟩
def trR(n:Int)(a:Rl):Rl:=⟨2,ofL (a.ts.map fun t=>t % n*n+t / n)⟩
def clR(n:Int):Nat->Rl->Rl
 | 0,c=>c
 |f+1,c=>if (unR c (joR n c c)).ts.length=c.ts.length then c else clR n f (unR c (joR n c c))
def ovR(n:Int)(a b:Rl):Rl:=unR b ⟨a.ar,a.ts.filter fun t=>decide (∀ u,u∈b.ts->u / powI n (b.ar-1)≠t / powI n (b.ar-1))⟩
def idR(n:Int):Rl:=⟨2,(qq n.toNat).map fun x:Nat=>(x:Int)*n+x⟩
theorem qdI:zY []:=List.Pairwise.nil
theorem Yu{l:List Int}{m:Nat}(hs:zY l)(h:∀ t,t∈l->0<=t/\t<(m:Int)):l.length<=m:=by
 have:=jH (l₂:=(qq m).map fun x:Nat=>(x:Int)) (J4 hs) fun x hx=>by
  obtain⟨h1,h2⟩:=h x hx;exact qs.2 ⟨x.toNat,zI.2 (by omega),by omega⟩
 simpa using this
theorem qdJ{l:List Int}(p:Int->Bool)(h:zY l):zY (l.filter p):=List.Pairwise.filter p h
theorem u3{n:Int}(h0:0<=n)(h1:n<=20)(k:Int):0<=powI n k/\powI n k<=8000:=J3 h0 h1 _ (by unfold powN;omega)
theorem GR.len{n:Int}{r:Rl}(h0:0<=n)(h1:n<=20)(g:GR n r):r.ts.length<=8000:=by
 have hp:=u3 h0 h1 r.ar;have:=Yu (m:=(powI n r.ar).toNat) g.srt fun t ht=>by have:=g.val t ht;omega
 omega
theorem GR.union{n:Int}{a b:Rl}(ha:GR n a)(hb:GR n b)(e:a.ar=b.ar):GR n (unR a b):=by
 obtain⟨h1,h2⟩:=J5 (a.ts++b.ts);refine⟨ha.ar1,ha.ar3,fun t ht=>?_,h1⟩;rcases qT.1 ((h2 t).1 ht) with h|h
 .exact ha.val t h
 .show 0<=t/\t<powI n a.ar
  rw[e];exact hb.val t h
theorem GR.filter{n:Int}{a:Rl}(ha:GR n a)(p:Int->Bool):GR n ⟨a.ar,a.ts.filter p⟩:=
 ⟨ha.ar1,ha.ar3,fun t ht=>ha.val t (vn.1 ht).1,qdJ p ha.srt⟩
end E1
namespace E3
open Y1 P1 E1
structure Md where
 sc:Sc
 states:List (List Rl)
 loop:Int
abbrev cSt(s:List Rl):List AV:=[lRel s]
abbrev lSt(l:List (List Rl)):AV := .lst false (l.map cSt)
abbrev cMd(m:Md):List AV:=[lI m.sc.atoms,aI m.sc.steps,lSt m.states,aI m.loop]
abbrev eMd(m:Md):AV := .agg (cMd m)
abbrev XE(α:Type):=Except Int α
def bX{α β:Type}(q:XE α)(g:α->XE β):XE β:=match q with
 | .error e => .error e
 | .ok a=>g a
theorem qO{α β:Type}(a:α)(g:α->XE β):bX (.ok a) g=g a:=rfl
theorem q9{α β:Type}(e:Int)(g:α->XE β):bX (.error e) g = .error e:=rfl
def mapX{α β:Type}(g:α->XE β):List α->XE (List β)
 | [] => .ok []
 |a :: l=>bX (g a) fun b=>bX (mapX g l) fun r => .ok (b :: r)
structure Pl where
 st:Nat
 env:List (ByteArray×Int)
structure Mo where
 ts:TS
 m:Md
def Mo.n(x:Mo):Int:=sumI x.m.sc.atoms
def Mo.nx(x:Mo)(s:Nat):Nat:=if s+1<x.m.states.length then s+1 else x.m.loop.toNat
def u4(x:Mo):Nat->Nat->List Nat->List Nat
 | 0,_,acc=>acc
 |f+1,s,acc=>if s∈acc then acc else u4 x f (x.nx s) (acc++[s])
def Mo.path(x:Mo)(s:Nat):List Nat:=u4 x (x.m.states.length+1) s []
def Ql(nm:ByteArray)(env:List (ByteArray×Int)):Option Int:=env.foldl (fun r e=>if e.1=nm then some e.2 else r) none
def zi(x:Mo)(i:Nat):List Int:=(qq (gI x.m.sc.atoms i).toNat).map fun k:Nat=>sumI (x.m.sc.atoms.take i)+k
def vf(x:Mo)(i:Nat):List Int:=(qq ((gI x.m.sc.atoms i).toNat-1)).map fun k:Nat=>(sumI (x.m.sc.atoms.take i)+k)*x.n+(sumI (x.m.sc.atoms.take i)+k+1)
def vg(fs:List Fld)(rs:List Rl)(nm:ByteArray):List Rl:=(fs.zip rs).filterMap fun e=>if e.1.name=nm then some e.2 else none
def yb(x:Mo)(nm:ByteArray):Nat->List (ByteArray×Bool)->List Rl
 |_,[]=>[]
 |i,s :: so=>(if s.1=nm then [⟨1,zi x i⟩] else [])++((if s.2=true/\s.1++je=nm then [⟨1,(zi x i).take 1⟩] else [])++((if s.2=true/\s.1++vB=nm then [⟨2,vf x i⟩] else [])++yb x nm (i+1) so))
def Zy:List Rl->XE Rl
 | [] => .error 40
 | [r] => .ok r
 |_ => .error 44
def vU(x:Mo)(p:Pl)(nm:ByteArray):XE Rl:=match Ql nm p.env with
 |some a => .ok ⟨1,[a]⟩
 |none=>Zy (vg x.ts.fields (x.m.states.getD p.st []) nm++yb x nm 0 x.ts.sorts)
structure Den where
 E:Pl->XE Rl
 N:Pl->XE Int
 F:Pl->XE Bool
def noD:Den:=⟨fun _ => .error 43,fun _ => .error 43,fun _ => .error 43⟩
def kD(ds:List Den)(i:Nat):Den:=ds.getD i noD
def zy(ds:List Den)(p:Pl):XE (Rl×Rl):=bX ((kD ds 0).E p) fun a=>bX ((kD ds 1).E p) fun b=>if a.ar=b.ar then .ok (a,b) else .error 42
def binE(ds:List Den)(p:Pl):XE Rl:=bX ((kD ds 0).E p) fun a=>if a.ar=2 then .ok a else .error 42
def y6(ds:List Den)(nm:ByteArray)(p:Pl):XE (List (Int×Bool)):=bX ((kD ds 0).E p) fun d=>if d.ar=1 then mapX (fun a=>bX ((kD ds 1).F ⟨p.st,p.env++[(nm,a)]⟩) fun b => .ok (a,b)) d.ts else .error 42
def jf(n:Int)(a b:Rl):XE Rl:=if 1<=a.ar+b.ar-2/\a.ar+b.ar-2<=3 then .ok (joR n a b) else .error 42
def jz(n:Int)(a b:Rl):XE Rl:=if a.ar+b.ar<=3 then .ok (prR n a b) else .error 42
def opE(x:Mo)(op:Int)(nm:ByteArray)(i:Int)(ds:List Den)(p:Pl):XE Rl:=
 if op=1 then vU x p nm
 else if op=2 then .ok ⟨i,[]⟩
 else if op=3 then .ok ⟨1,(qq x.n.toNat).map fun k:Nat=>(k:Int)⟩
 else if op=4 then .ok (idR x.n)
 else if op=5 then (kD ds 0).E ⟨x.nx p.st,p.env⟩
 else if op=6 then bX (zy ds p) fun q => .ok (unR q.1 q.2)
 else if op=7 then bX (zy ds p) fun q => .ok (inR q.1 q.2)
 else if op=8 then bX (zy ds p) fun q => .ok (diR q.1 q.2)
 else if op=9 then bX ((kD ds 0).E p) fun a=>bX ((kD ds 1).E p) fun b=>jf x.n a b
 else if op=10 then bX ((kD ds 0).E p) fun a=>bX ((kD ds 1).E p) fun b=>jz x.n a b
 else if op=11 then bX (binE ds p) fun a => .ok (trR x.n a)
 else if op=12 then bX (binE ds p) fun a => .ok (clR x.n 200 a)
 else if op=13 then bX (binE ds p) fun a => .ok (unR (clR x.n 200 a) (idR x.n))
 else if op=14 then bX (zy ds p) fun q => .ok (ovR x.n q.1 q.2)
 else if op=15 then bX (y6 ds nm p) fun l => .ok ⟨1,(l.filter fun e=>e.2).map fun e=>e.1⟩
 else .error 43
def opN(op:Int)(i:Int)(ds:List Den)(p:Pl):XE Int:=
 if op=20 then .ok i
 else if op=21 then bX ((kD ds 0).E p) fun a => .ok (a.ts.length:Int)
 else if op=22 then bX ((kD ds 0).N p) fun a=>bX ((kD ds 1).N p) fun b => .ok (qj.wrap (a+b))
 else if op=23 then bX ((kD ds 0).N p) fun a=>bX ((kD ds 1).N p) fun b => .ok (qj.wrap (a-b))
 else .error 43
def untX(g h:Nat->XE Bool):List Nat->Bool->Bool->XE Bool
 | [],done,_ => .ok done
 |s :: l,done,failed=>bX (g s) fun a=>bX (h s) fun b=>untX g h l (done||(b&&!failed)) (failed||!a)
def opF(x:Mo)(op:Int)(nm:ByteArray)(ds:List Den)(p:Pl):XE Bool:=
 if op=30 then .ok true
 else if op=31 then .ok false
 else if op=32 then bX (zy ds p) fun q => .ok (decide ((diR q.1 q.2).ts=[]))
 else if op=33 then bX (zy ds p) fun q => .ok (decide (q.1=q.2))
 else if op=34 then bX ((kD ds 0).E p) fun a => .ok (decide (0<a.ts.length))
 else if op=35 then bX ((kD ds 0).E p) fun a => .ok (decide (a.ts.length=0))
 else if op=36 then bX ((kD ds 0).E p) fun a => .ok (decide (a.ts.length=1))
 else if op=37 then bX ((kD ds 0).E p) fun a => .ok (decide (a.ts.length<=1))
 else if op=38 then bX ((kD ds 0).N p) fun a=>bX ((kD ds 1).N p) fun b => .ok (decide (a=b))
 else if op=39 then bX ((kD ds 0).N p) fun a=>bX ((kD ds 1).N p) fun b => .ok (decide (a<b))
 else if op=40 then bX ((kD ds 0).F p) fun a => .ok (!a)
 else if op=41 then bX ((kD ds 0).F p) fun a=>bX ((kD ds 1).F p) fun b => .ok (a&&b)
 else if op=42 then bX ((kD ds 0).F p) fun a=>bX ((kD ds 1).F p) fun b => .ok (a||b)
 else if op=43 then bX ((kD ds 0).F p) fun a=>bX ((kD ds 1).F p) fun b => .ok (!a||b)
 else if op=44 then bX ((kD ds 0).F p) fun a=>bX ((kD ds 1).F p) fun b => .ok (decide (a=b))
 else if op=45 then bX (y6 ds nm p) fun l => .ok (l.all fun e=>e.2)
 else if op=46 then bX (y6 ds nm p) fun l => .ok (l.any fun e=>e.2)
 else if op=47 then bX (mapX (fun d:Den=>d.E p) ds) fun _ => .error 45
 else if op=48 then bX (mapX (fun s=>(kD ds 0).F ⟨s,p.env⟩) (x.path p.st)) fun l => .ok (l.all id)
 else if op=49 then bX (mapX (fun s=>(kD ds 0).F ⟨s,p.env⟩) (x.path p.st)) fun l => .ok (l.any id)
 else if op=50 then (kD ds 0).F ⟨x.nx p.st,p.env⟩
 else if op=51 then untX (fun s=>(kD ds 0).F ⟨s,p.env⟩) (fun s=>(kD ds 1).F ⟨s,p.env⟩) (x.path p.st) false false
 else .error 43
def opD(x:Mo)(op:Int)(nm:ByteArray)(i:Int)(ds:List Den):Den:=⟨opE x op nm i ds,opN op i ds,opF x op nm ds⟩
mutual
def den(x:Mo):Nd->Den
 | .mk op nm i ks _=>opD x op nm i (dens x ks)
def dens(x:Mo):List Nd->List Den
 | []=>[]
 |k :: ks=>den x k :: dens x ks
end
theorem kC(x:Mo):∀ ks:List Nd,dens x ks=ks.map (den x)
 | []=>rfl
 |k :: ks=>by rw[dens,kC x ks,yd]
theorem Qm(x:Mo)(n:Nd):den x n=opD x n.op n.name n.n (n.kids.map (den x)):=by
 obtain⟨op,nm,i,ks,p⟩:=n;rw[den,kC];rfl
end E3
namespace E5
open Y1 E3
abbrev nk(op:Int)(ks:List Nd):Nd := .mk op ⟨#[]⟩ 0 ks 0
abbrev nb(op:Int)(nm:ByteArray)(e f:Nd):Nd := .mk op nm 0 [e,f] 0
theorem qdK{α β γ:Type}(q:XE α)(g:α->XE β)(h:β->XE γ):bX (bX q g) h=bX q fun a=>bX (g a) h:=by cases q<;>rfl
variable (x:Mo) (p:Pl) (f g d e:Nd) (nm:ByteArray)
end E5
namespace E7
open E3
def it(x:Mo):Nat->Nat->Nat
 | 0,s=>s
 |k+1,s=>it x k (x.nx s)
theorem uw(x:Mo):∀ k s,it x (k+1) s=x.nx (it x k s)
 | 0,s=>rfl
 |k+1,s=>by rw[it,uw x k (x.nx s)];rfl
theorem UK(x:Mo)(j:Nat):∀ k s,it x (k+j) s=it x k (it x j s)
 | 0,s=>by rw[yC];rfl
 |k+1,s=>by rw[Nat.add_right_comm,uw,UK x j k s,uw]
structure OkX (x:Mo) (N:Nat):Prop where
 len:x.m.states.length=N
 nx:∀ t,t<N->x.nx t<N
theorem Qn{x:Mo}{N:Nat}(h:OkX x N){s:Nat}(hs:s<N):∀ k,it x k s<N
 | 0=>hs
 |k+1=>by rw[uw];exact h.nx _ (Qn h hs k)
abbrev its(x:Mo)(s r:Nat):List Nat:=(qq r).map fun k=>it x k s
theorem kE(x:Mo)(s r:Nat):its x s (r+1)=its x s r++[it x r s]:=by
 unfold its;rw[List.range_succ,zm];rfl
theorem kF{x:Mo}{N:Nat}(h:OkX x N){s:Nat}(hs:s<N):∀ f k,N+1<=f+k->(its x s k).Nodup->∃ r,k<=r/\u4 x f (it x k s) (its x s k)=its x s r/\it x r s∈its x s r
 | 0,k,hk,hn=>by
  exfalso;have:=jH (l₂:=qq N) hn fun t ht=>by
   obtain⟨i,_,rfl⟩:=qs.1 ht;exact zI.2 (Qn h hs i)
  simp at this;omega
 |f+1,k,hk,hn=>by
  rw[u4];by_cases hm:it x k s∈its x s k
  .rw [if_pos hm];exact⟨k,qr _,rfl,hm⟩
  .rw [if_neg hm,<-kE]
   have h1:x.nx (it x k s)=it x (k+1) s:=(uw x k s).symm;rw[h1];obtain⟨r,a,b,c⟩:=kF h hs f (k+1) (by omega) (by
    rw[kE,jY];refine⟨hn,by simp,fun a ha b hb e=>?_⟩;rw[qW]at hb;subst hb;subst e;exact hm ha)
   exact⟨r,by omega,b,c⟩
theorem UL{x:Mo}{N:Nat}(h:OkX x N){s:Nat}(hs:s<N):∃ r,x.path s=its x s r/\∀ k,∃ j,j<r/\it x k s=it x j s/\j<=k:=by
 obtain⟨r,_,b,c⟩:=kF h hs (N+1) 0 (by omega) (by simp[its]);refine⟨r,?_,?_⟩
 .unfold Mo.path;rw[h.len];exact b
 .obtain ⟨j,hj,e⟩:=qs.1 c
  rw[zI]at hj;intro k;induction k using Nat.strongRecOn with
  |_ k ih =>
   by_cases hk:k<r
   .exact ⟨k,hk,rfl,qr _⟩
   .have e1:it x k s=it x (k-r+j) s:=by
     have:k=(k-r)+r:=by omega
     rw[this,UK,<-e,<-UK];congr 1;omega
    obtain⟨i,hi,e2,hle⟩:=ih (k-r+j) (by omega);exact⟨i,hi,by rw[e1,e2],by omega⟩
theorem UM{α β:Type}{g:α->XE β}{b:α->β}:∀{l:List α},(∀ a,a∈l->g a = .ok (b a))->mapX g l = .ok (l.map b)
 | [],_=>rfl
 |a :: l,h=>by
  rw[mapX,h a (zZ ..),UM fun y hy=>h y (zK _ hy)];rfl
end E7
namespace EL
open E1 E3
theorem UN(x:Mo)(hl:0<=x.m.loop)(hN:x.m.states.length<=1000000)(s:Nat)(hs:s<x.m.states.length):qi qd 40 [eMd x.m,aI s] (aI (x.nx s:Nat)):=by
 have wl:qj.wrap ((x.m.states.length:Int)-1)=(x.m.states.length:Int)-1:=qg (by omega) (by omega);have w1:qj.wrap ((s:Int)+1)=(s:Int)+1:=qg (by omega) (by omega);unfold Mo.nx;refine qSQ call40 func40 rfl {} ?_;by_cases hlt:s+1<x.m.states.length
 .rw [if_pos hlt]
  have a1:(s:Int)<(x.m.states.length:Int)-1:=by omega
  simp[go_sem,wl,w1,a1];exact .hf _ (HF.sc _)
 .rw [if_neg hlt]
  have a1:¬(s:Int)<(x.m.states.length:Int)-1:=by omega
  have a2:(s:Int)=(x.m.states.length:Int)-1:=by omega
  have a3:((x.m.loop.toNat:Nat):Int)=x.m.loop:=by omega
  have a4:(1:Int)<=x.m.states.length:=by omega
  rw[a3];simp[go_sem,wl,w1,a1,a2,a4];exact .hf _ (HF.sc _)
theorem qdL(n:Int)(h0:0<=n)(h1:n<=20)(k:Nat)(hk:k<=3):qi qd 77 [aI n,aI k] (aI (n ^ k)):=by
 refine qSQ call77 func77 rfl {} ?_;simp[go_sem];refine ql.up k (fun i st=>st.tm 0=aI n/\st.tm 5=aI (n ^ i)/\st.tm 6=aI k/\st.tm 7=aI i/\st.mu=[]) ?_ ?_
 .simp [go_sem]
 rintro i st hi ⟨e0,e5,e6,e7,hm⟩;by_cases hlt:i<k
 .have hp:=J3 h0 h1 (i+1) (by omega)
  have w1:qj.wrap ((i:Int)+1)=(i:Int)+1:=qg (by omega) (by omega);rw[Int.pow_succ]at hp;have w2:qj.wrap (n ^ i*n)=n ^ i*n:=qg (by omega) (by omega);simp[go_sem,e0,e5,e6,e7,hm,hlt,w1,w2];rw[Int.pow_succ]
 .have hge:i=k:=by omega
  subst hge;simp[go_sem,e0,e5,e6,e7,hm];exact .hf _ (HF.sc _)
theorem idenU(n:Nat)(hn:n<=20):qi qd 38 [aI n] (eRel (idR n)):=by
 refine qSQ call38 func38 rfl {} ?_;simp[go_sem];refine ql.keep (fun m st=>∃ k av rest,m=n-k/\k<=n/\st.tm 0=aI n/\st.tm 2 = .ptr 0 0/\st.tm 3 = .ptr 1 0/\st.tm 6=aI n/\st.tm 7=aI (k:Nat)/\st.mu=[.arr [aI 0,.lst true []],.arr [aI 2,av]]++rest/\OwnF 2 ([.dead,.dead]++rest) 1 av (((qq k).map fun x:Nat=>(x:Int)*n+x).map rI)) n ?_ ?_
 .exact ⟨0,.lst true [],[],by omega,by omega,by simp[go_sem],by simp[go_sem],by simp[go_sem],by simp[go_sem],by simp[go_sem],by simp[go_sem],by simpa using OwnF.nil (by simp)⟩
 rintro m st ⟨k,av,rest,rfl,hk,e0,e2,e3,e6,e7,hm,ho⟩;have ho:=ho.low (low:=[.dead,.dead]) (low':=[.arr [aI 0,.lst true []],.arr [aI 2,av]]) rfl;by_cases hlt:k<n
 .have hp:0<=(k:Int)*n/\(k:Int)*n<=400:=⟨Int.mul_nonneg (by omega) (by omega),by have:(k:Int)*n<=20*20:=jp (by omega) (by omega) (by omega) (by omega);omega⟩
  have w1:qj.wrap ((k:Int)*n)=(k:Int)*n:=qg (by omega) (by omega);have w2:qj.wrap ((k:Int)*n+k)=(k:Int)*n+k:=qg (by omega) (by omega);have w3:qj.wrap ((k:Int)+1)=(k:Int)+1:=qg (by omega) (by omega);simp[go_sem,e0,e2,e3,e6,e7,hlt,hm,w1,w2,w3];refine qF.intsL (low:=[.arr [aI 0,.lst true []],.arr [aI 2,av]]) (e:=3) (bt:=8) (z:=0) (xs:=(qq k).map fun x:Nat=>(x:Int)*n+x) (ys:=[(k:Int)*n+k]) (by simp[go_sem]) (by simp[go_sem]) (by simp[go_sem]) (by omega) ho (by simp[qG]) (by simp;omega) ?_;intro av' rest' ho';simp[go_sem,e0,e2,e3,e6,e7,hlt,w1,w2,w3,ho'.cells,ho'.one];refine Keep.loop (n-(k+1)) (by omega) ⟨k+1,av',rest',rfl,by omega,by simp[go_sem,e0],by simp[go_sem,e2],by simp[go_sem,e3],by simp[go_sem,e6],by simp[go_sem],by simp[go_sem],?_⟩;rw[List.range_succ,zm];simpa using ho'.low (low':=[.dead,.dead]) rfl
 .have hge:k=n:=by omega
  subst hge;simp[go_sem,e0,e2,e3,e6,e7,hlt,hm,ho.one];exact Rd.rel (r:=idR k) (ho.low (low:=[.arr [aI 0,.lst true []],.arr [aI 2,av]]) (low':=[.arr [aI 2,av],.arr [aI 2,av]]) rfl).rdI
end EL
namespace EJ
open E1
def jn{β:Type}(p:β->β->Bool):β->List β->List β
 |_,[]=>[]
 |x,y :: l=>if p y x=true then jn p y l else y :: jn p y l
def cmpc{β:Type}(p:β->β->Bool):List β->List β
 | []=>[]
 |x :: l=>x :: jn p x l
theorem kG{β:Type}(p:β->β->Bool):∀(l:List β) (x y:β),jn p x (l++[y])=jn p x l++(if p y ((x :: l).getLast (by simp))=true then [] else [y])
 | [],x,y=>by
  by_cases hp:p y x=true<;>simp[jn,hp]
 |z :: l,x,y=>by
  have ih:=kG p l z y;have e:(x :: z :: l).getLast (by simp)=(z :: l).getLast (by simp):=List.getLast_cons (by simp);simp only[yB,jn,e,ih];split
  .rfl
  .rfl
theorem kH{β:Type}(p:β->β->Bool)(l:List β)(k:Nat)(h1:1<=k)(h2:k<l.length):cmpc p (l.take (k+1))=cmpc p (l.take k)++(if p l[k] (l[k-1]'(by omega))=true then [] else [l[k]]):=by
 have htk:l.take (k+1)=l.take k++[l[k]]:=by rw[List.take_add_one,qv h2];rfl
 have hlast:∀(q:l.take k≠[]),(l.take k).getLast q=l[k-1]'(by omega):=by
  intro q;rw[List.getLast_eq_getElem,List.getElem_take];congr 1;simp;omega
 rw[htk];cases hq:l.take k with
 |nil =>
  have hlen:=congrArg List.length hq;rw[jZ,List.length_nil]at hlen;omega
 |cons x r =>
  have:=hlast (by rw[hq];simp);simp only[hq]at this;simp only[yB,cmpc,kG,this]
abbrev eqI:Int->Int->Bool:=fun y x=>decide (y=x)
theorem UO:∀(l:List Int) (x:Int),(x :: l).Pairwise (·<=·)->zY (x :: jn eqI x l)/\∀ t,t∈x :: jn eqI x l↔t∈x :: l
 | [],x,_=>⟨List.pairwise_singleton _ _,fun t=>Iff.rfl⟩
 |y :: l,x,h=>by
  obtain⟨h1,h2⟩:=vJ.1 h;have hxy:=h1 y (zZ ..);by_cases e:y=x
  .have e2:jn eqI x (y :: l)=jn eqI y l:=by simp[jn,e]
   rw[e2,e];have hx:(x :: l).Pairwise (·<=·):=by rw[e]at h2;exact h2
   obtain⟨i1,i2⟩:=UO l x hx;refine⟨i1,fun t=>?_⟩;rw[i2];simp
  .have e2:jn eqI x (y :: l)=y :: jn eqI y l:=by simp[jn,e]
   rw[e2];obtain⟨i1,i2⟩:=UO l y h2;refine⟨vJ.2 ⟨fun t ht=>?_,i1⟩,fun t=>?_⟩
   .rcases qB.1 ((i2 t).1 ht) with rfl|ht
    .omega
    .have:=(vJ.1 h2).1 t ht;omega
   .rw [qB,i2,qB (l:=y :: l)]
theorem qdM(l:List Int)(h:l.Pairwise (·<=·)):zY (cmpc eqI l)/\∀ t,t∈cmpc eqI l↔t∈l:=by
 cases l with
 |nil=>exact⟨List.Pairwise.nil,fun t=>Iff.rfl⟩
 |cons x l=>exact UO l x h
theorem qdN(l:List Int):(srtI l).Pairwise (·<=·):=by
 have:=List.pairwise_mergeSort (le:=fun x y:Int=>decide (x<=y)) (fun a b c h1 h2=>by simp at *;omega) (fun a b=>by simp;omega) l;exact this.imp fun h=>by simpa using h
theorem qdO(l:List Int)(t:Int):t∈srtI l↔t∈l:=(List.mergeSort_perm l _).mem_iff
theorem qdP(l:List Int):cmpc eqI (srtI l)=ofL l:=by
 obtain⟨h1,h2⟩:=qdM _ (qdN l);obtain⟨h3,h4⟩:=J5 l;exact ky h1 h3 fun t=>by rw[h2,h4,qdO]
end EJ
namespace EM
theorem sortE{mu:Mu}{b:Nat}{zs:List Int}(hc:mu[b]?=some (.arr (zs.map aI)))(hl:zs.length<=1000000000) :
  qY qd 142 [.sl b 1 0 zs.length] mu fun e m=>e = .ret (.tup [])/\m=mu.set b (.arr ((srtI zs).map aI)):=by
 have:=qc5 (P:=qd) call142 (fun blk off cap zs w h1 h2 h3=>Tryz.slices_Sort_int blk off cap zs w h1 h2 h3) (mu:=mu) (b:=b) (off:=0) (cells:=zs.map aI) (zs:=zs) hc
  (fun k n h=>by rw[yC,zk,h];rfl) (by omega) (by simp)
 have e:putCells (zs.map aI) 0 ((srtI zs).map fun n => .sc (.int .i64 n))=(srtI zs).map aI:=by
  rw[yX _ _ _ (by simp[Yr])];simp[Yr]
 rw[e]at this;exact this
end EM
end Go.Proofs.YtkglmpmlfjogkaaGreatDoor
namespace Go.Ev
open Go Go.RowKit
@[go_sem ↓] theorem qm2(P:Program)(pl:Pol)(det:Bool)(dst:Option Tmp)(ev:Operand->AV)(mu:Mu)(K Kp:AV->Mu->Prop)(l:List Operand)(ats:Array TypeId):qw P pl det dst (.call ⟨.builtin .clear,l.toArray,ats⟩) ev mu K Kp=ww P mu .clear ats (evs ev l) K:=eqS rfl
theorem qdQ{P:Program}{mu:Mu}{K:AV->Mu->Prop}{t e:TypeId}{sz bt b off len:Nat}{cells:List AV}{zv:AV}(hs:qJ P t=some (e,sz,bt))(hz:qz P e=some zv)(hz1:zv.cells.length=sz)(hz2:zv.cells.all AV.one=true)(hz0:sz≠0)
  (hc:mu[b]?=some (.arr cells)) (hl:off+len*sz<=cells.length) (hp:0<len) (k:K (.tup []) (mu.set b (.arr (putCells cells off ((qq (len*sz)).map fun i=>zv.cells.getD (i % sz) .any))))):ww P mu .clear #[t] [.sl b sz off len] K:=
 ⟨_,_,.clear hs hz hz1 hz2 hz0 hc hl hp,k⟩
end Go.Ev
namespace Go.Proofs.YtkglmpmlfjogkaaGreatDoor
open Go Go.Ev Go.Proofs Tryz
namespace EN
open EJ
theorem UP{mu:Mu}{b:Nat}{c:Cell}(h:mu[b]?=some c):mu.set b c=mu:=by
 obtain⟨h1,h2⟩:=qk.1 h;rw[<-h2];simp
theorem J6(l:List Int)(i:Nat)(h:i<l.length):List.take 1 (List.drop i (l.map aI))=[aI l[i]]:=by
 rw[zj (by simpa using h)];simp
theorem qdR(mu:Mu)(b:Nat)(ms:List Int)(hl:ms.length<=1000000)(hb:mu[b]?=some (.arr (ms.map aI))) :
  qY qd 143 [.sl b 1 0 ms.length] mu fun e m=>∃ cells,e = .ret (.sl b 1 0 (cmpc eqI ms).length)/\m=mu.set b (.arr cells)/\cells.length=ms.length/\cells.take (cmpc eqI ms).length=(cmpc eqI ms).map aI:=by
 refine qSW call143 func143 rfl {} ?_;simp[go_sem];by_cases h2:ms.length<2
 .have hc:cmpc eqI ms=ms:=by
   match ms,h2 with
   | [],_=>rfl
   | [x],_=>rfl
   |_ :: _ :: _,h=>simp only[z6]at h;omega
  simp[go_sem,show (ms.length:Int)<2 by omega];rw[hc];exact⟨rfl,ms.map aI,(UP hb).symm,by simp,by rw[zU (by simp)]⟩
 simp[go_sem,show ¬(ms.length:Int)<2 by omega];refine ql.keep (fun m st=>∃ k,m=ms.length-k/\1<=k/\k<=ms.length/\st.tm 0 = .sl b 1 0 ms.length/\st.tm 3=aI (k:Nat)/\st.mu=mu/\cmpc eqI (ms.take k)=ms.take k) (ms.length-1) ?_ ?_
 .refine ⟨1,by omega,by omega,by omega,by simp[go_sem],by simp[go_sem],by simp[go_sem],?_⟩
  match ms,h2 with
  | [],h=>simp at h
  |x :: l,_=>simp[cmpc,jn]
 rintro m st ⟨k,rfl,hk1,hk,e0,e3,hm,hi⟩;by_cases hlt:k<ms.length
 .have hw:qj.wrap ((k:Int)-1)=((k-1:Nat):Int):=by rw[qg (by omega) (by omega)];omega
  have hkk:k-1<ms.length:=by omega
  have r1:=J6 ms k hlt;have r2:=J6 ms (k-1) hkk;have g1:k+1<=ms.length:=hlt;have g2:k-1+1<=ms.length:=hkk;have hsucc:=kH eqI ms k hk1 hlt;rw[hi]at hsucc;simp[go_sem,e0,e3,hm,hlt];refine qe.intro (by kernel_rfl) ?_;by_cases hp:ms[k]=ms[k-1]
  .simp [go_sem,e0,e3,hm,hlt,hb,hw,hkk,hp,r1,r2,g1,g2]
   rw[if_pos (by simpa using hp),zx]at hsucc;simp[go_sem,e0,e3,hm,hlt,hk];refine ql.keep (fun m2 st2=>∃(j i:Nat) (cur:List Int),m2=ms.length-(k+j)/\1<=j/\k+j<=ms.length/\st2.tm 0 = .sl b 1 0 ms.length/\st2.tm 3=aI (i:Nat)/\st2.tm 4 = .sl b 1 k (ms.length-k)/\st2.tm 5=aI (j:Nat)/\cur.length=ms.length/\st2.mu=mu.set b (.arr (cur.map aI))/\i=(cmpc eqI (ms.take (k+j))).length/\i<=k+j-1/\cur.take i=cmpc eqI (ms.take (k+j))/\cur.drop (k+j-1)=ms.drop (k+j-1)) (ms.length-(k+1)) ?_ ?_
   .refine ⟨1,k,ms,by omega,by omega,by omega,by simp[go_sem,e0],by simp[go_sem,e3],by simp[go_sem],by simp[go_sem],rfl,?_,?_,by omega,?_,rfl⟩
    .simp [go_sem,hm];exact(UP hb).symm
    .rw [hsucc,jZ];omega
    .exact hsucc.symm
   rintro m2 st2 ⟨j,i,cur,rfl,hj1,hj,f0,f3,f4,f5,hcl,hm2,hil,hi2,hct,hcd⟩;have hbl:b<mu.length:=(qk.1 hb).1;by_cases hjl:j<ms.length-k
   .have hkj:k+j<ms.length:=by omega
    have c1:cur[k+j]'(by omega)=ms[k+j]:=by
     have:=congrArg (fun l=>l[1]?) hcd;simp only[yA]at this;rw[show k+j-1+1=k+j by omega,qv (by omega),qv (by omega)]at this;exact Option.some.inj this
    have c2:cur[k+j-1]'(by omega)=ms[k+j-1]:=by
     have:=congrArg (fun l=>l[0]?) hcd;simp only[yA,Nat.add_zero]at this;rw[qv (by omega),qv (by omega)]at this;exact Option.some.inj this
    have r1:=J6 cur (k+j) (by omega);have r2:List.take 1 (List.drop (k+(j-1)) (cur.map aI))=[aI (ms[k+j-1]'(by omega))]:=by rw[show k+(j-1)=k+j-1 by omega,J6 cur (k+j-1) (by omega),c2]
    rw[c1]at r1;have hw2:qj.wrap ((j:Int)-1)=((j-1:Nat):Int):=by rw[qg (by omega) (by omega)];omega
    have hw3:qj.wrap ((j:Int)+1)=((j+1:Nat):Int):=by rw[qg (by omega) (by omega)];omega
    have g3:j-1<ms.length-k:=by omega
    have g4:k+j+1<=cur.length:=by omega
    have g5:k+(j-1)+1<=cur.length:=by omega
    have hs2:=kH eqI ms (k+j) (by omega) hkj;have hd1:cur.drop (k+j)=ms.drop (k+j):=by
     have:=congrArg (List.drop 1) hcd;rw[List.drop_drop,List.drop_drop,show k+j-1+1=k+j by omega]at this;exact this
    simp[go_sem,f0,f3,f4,f5,hm2,hjl];refine qe.intro (by kernel_rfl) ?_;by_cases hp2:ms[k+j]=ms[k+j-1]
    .rw [if_pos (by simpa using hp2),zx]at hs2
     simp[go_sem,f0,f3,f4,f5,hm2,hjl,hbl,r1,r2,hw2,hw3,g3,g4,g5,hp2];refine Keep.loop (ms.length-(k+(j+1))) (by omega) ⟨j+1,i,cur,rfl,by omega,by omega,by simp[go_sem,f0],by simp[go_sem,f3],by simp[go_sem,f4],by simp[go_sem,hw3],hcl,by simp[go_sem],?_,by omega,?_,?_⟩
     .rw [show k+(j+1)=k+j+1 by omega,hs2];exact hil
     .rw [show k+(j+1)=k+j+1 by omega,hs2];exact hct
     .rw [show k+(j+1)-1=k+j by omega];exact hd1
    .rw [if_neg (by simpa using hp2)]at hs2
     have hii:i<ms.length:=by omega
     have hic:i+1<=cur.length:=by omega
     have hic2:i<cur.length:=by omega
     have hw4:qj.wrap ((i:Int)+1)=((i+1:Nat):Int):=by rw[qg (by omega) (by omega)];omega
     simp[go_sem,f0,f3,f4,f5,hm2,hjl,hbl,r1,r2,hw2,hw3,hw4,g3,g4,g5,hp2,hii,hic,hic2];refine Keep.loop (ms.length-(k+(j+1))) (by omega) ⟨j+1,i+1,cur.set i ms[k+j],rfl,by omega,by omega,by simp[go_sem,f0],by simp[go_sem,hw4],by simp[go_sem,f4],by simp[go_sem,hw3],by simp[hcl],?_,?_,by omega,?_,?_⟩
     .simp [go_sem,List.map_set]
     .rw [show k+(j+1)=k+j+1 by omega,hs2,zt];simp;omega
     .rw [show k+(j+1)=k+j+1 by omega,hs2,<-hct,List.take_add_one,zb (by omega),List.take_set_of_le (by omega)];rfl
     .rw [show k+(j+1)-1=k+j by omega,List.drop_set_of_lt (by omega)];exact hd1
   .have hje:k+j=ms.length:=by omega
    rw[hje,zw]at hil hct;simp[go_sem,f0,f3,f4,f5,hm2,hjl,show i<ms.length by omega,show i<=ms.length by omega];refine qdQ (e:=3) (bt:=8) (zv:=aI 0) (cells:=cur.map aI) (by simp[go_sem]) (by simp[go_sem]) rfl rfl (by omega) (by simp[hbl]) (by simp;omega) (by omega) ?_;have hZ:∀ zs:List AV,zs.length=ms.length-i->(putCells (cur.map aI) i zs).length=ms.length/\(putCells (cur.map aI) i zs).take i=(cur.map aI).take i:=by
     intro zs hz;rw[yX _ _ _ (by simp;omega)];refine⟨by simp;omega,?_⟩;rw[zB,List.take_append,jZ,Nat.min_eq_left (by simp;omega),Nat.sub_self,List.take_zero,zx,List.take_take,Nat.min_self]
    have hz:=hZ ((qq ((ms.length-i)*1)).map fun j=>(aI 0).cells.getD (j % 1) .any) (by simp);generalize putCells (cur.map aI) i _=Z at hz⊢;simp[go_sem,f0,f3,f4,f5,hm2,hjl,show i<ms.length by omega,show i<=ms.length by omega];refine⟨hil,Z,rfl,hz.1,?_⟩;rw[<-hil,hz.2,<-List.map_take,hct]
  .rw [if_neg (by simpa using hp)]at hsucc
   have htk:ms.take (k+1)=ms.take k++[ms[k]]:=by rw[List.take_add_one,qv hlt];rfl
   simp[go_sem,e0,e3,hm,hlt,hb,hw,hkk,hp,r1,r2,g1,g2];refine Keep.loop (ms.length-(k+1)) (by omega) ⟨k+1,rfl,by omega,by omega,by simp[go_sem,e0],?_,by simp[go_sem],by rw[hsucc,htk]⟩;simp[go_sem];exact qg (by omega) (by omega)
 .have hke:k=ms.length:=by omega
  subst hke;rw[zw]at hi;simp[go_sem,e0,e3,hm];rw[hi];exact⟨rfl,ms.map aI,(UP hb).symm,by simp,by rw[zU (by simp)]⟩
end EN
namespace E4
open E1
theorem qdS(n k:Int)(h0:0<=n)(h1:n<=20):qi qd 75 [aI n,aI k] (aI (powI n k)):=by
 refine qSQ call75 func75 rfl {} ?_;simp[go_sem];refine ql.up (powN k) (fun i st=>st.tm 0=aI n/\st.tm 1=aI k/\st.tm 5=aI (n ^ i)/\st.tm 6=aI i/\st.mu=[]) ?_ ?_
 .simp [go_sem]
 rintro i st hi ⟨e0,e1,e5,e6,hm⟩;by_cases hlt:i<powN k
 .have ha:(i:Int)<k:=by unfold powN at hlt;omega
  have hb:(i:Int)<3:=by unfold powN at hlt;omega
  have hp:=J3 h0 h1 (i+1) (by omega);rw[Int.pow_succ]at hp;simp[go_sem,e0,e1,e5,e6,hm,ha,hb];refine⟨hlt,?_,qg (by omega) (by omega)⟩;rw[Int.pow_succ,qg (by omega) (by omega)]
 .have hge:i=powN k:=by omega
  by_cases ha:(i:Int)<k
  .have hb:¬(i:Int)<3:=by unfold powN at hlt;omega
   simp[go_sem,e0,e1,e5,e6,hm,ha,hb];rw[powI,hge];exact .hf _ (HF.sc _)
  .simp [go_sem,e0,e1,e5,e6,hm,ha]
   rw[powI,hge];exact .hf _ (HF.sc _)
theorem UQ(n:Int)(r:Rl)(hl:r.ts.length<=9223372036854775807):qi qd 31 [aI n,eRel r] (aB (yW n r)):=by
 refine qSQ call31 func31 rfl {} ?_;by_cases h1:n<0
 case pos =>
  simp[go_sem,h1,yW,show ¬ 0<=n by omega];exact .hf _ (HF.sc _)
 by_cases h2:12<n
 case pos =>
  simp[go_sem,h1,h2,yW,show ¬n<=12 by omega];exact .hf _ (HF.sc _)
 by_cases h3:r.ar<1
 case pos =>
  simp[go_sem,h1,h2,h3,yW,show ¬ 1<=r.ar by omega];exact .hf _ (HF.sc _)
 by_cases h4:3<r.ar
 case pos =>
  simp[go_sem,h1,h2,h3,h4,yW,show ¬r.ar<=3 by omega];exact .hf _ (HF.sc _)
 simp[go_sem,h1,h2,h3,h4];refine ql.up r.ts.length (fun k st=>st.tm 0=aI n/\st.tm 3 = .ip [aI r.ar,lI r.ts]/\st.tm 5=aI k/\st.mu=[]/\∀(i:Nat) (h:i<r.ts.length),i<k->0<=r.ts[i]/\r.ts[i]<powI n r.ar/\(0<i->r.ts[i-1]<r.ts[i])) ?_ ?_
 .simp [go_sem]
 rintro k st hk ⟨e0,e3,e5,hm,he⟩;by_cases hlt:k<r.ts.length
 .have bad1:¬(0<=r.ts[k]/\r.ts[k]<powI n r.ar)->yW n r=false:=by
   intro hb;have:r.ts.all (fun t=>decide (0<=t)&&decide (t<powI n r.ar))=false:=by
    rw[<-Bool.not_eq_true,qy];intro hall;have:=hall _ (qu hlt);simp at this;exact hb this
   simp only[yW,this,Bool.and_false,Bool.false_and]
  have bad2:0<k->¬(r.ts[k-1]<r.ts[k])->yW n r=false:=by
   intro hk hb;have:¬zY r.ts:=fun h=>hb (qdG h (by omega) hlt)
   simp only[yW,this,decide_false,Bool.and_false,Bool.false_and]
  have hw:0<k->qj.wrap ((k:Int)-1)=((k-1:Nat):Int):=fun h=>by rw[qg (by omega) (by omega)];omega
  have next:0<=r.ts[k]->r.ts[k]<powI n r.ar->(0<k->r.ts[k-1]<r.ts[k])->k<r.ts.length/\qj.wrap ((k:Int)+1)=(k:Int)+1/\∀(i:Nat) (h:i<r.ts.length),i<k+1->0<=r.ts[i]/\r.ts[i]<powI n r.ar/\(0<i->r.ts[i-1]<r.ts[i]):=by
   intro n1 n2 n3;refine⟨hlt,qg (by omega) (by omega),fun i h hi=>?_⟩;rcases jU.1 hi with h2|h2
   .exact he i h h2
   .subst h2;exact⟨n1,n2,n3⟩
  simp[go_sem,e0,e3,e5,hm,hlt];refine qe.intro (by kernel_rfl) ?_;simp[go_sem,e0,e3,e5,hm,hlt];by_cases ha:r.ts[k]<0
  .simp [go_sem,e0,e3,e5,hm,hlt,ha]
   rw[bad1 (by omega)];exact .hf _ (HF.sc _)
  simp[go_sem,e0,e3,e5,hm,hlt,ha];refine qb.pure (qdS n r.ar (by omega) (by omega)) (.cons (.hf (HF.sc _)) (.cons (.hf (HF.sc _)) .nil)) ?_;by_cases hb:powI n r.ar<=r.ts[k]
  .simp [go_sem,e0,e3,e5,hm,hlt,ha,hb]
   rw[bad1 (by omega)];exact .hf _ (HF.sc _)
  by_cases hk0:0<k
  .have hw:=hw hk0
   have hk1:k-1<r.ts.length:=by omega
   by_cases hc:r.ts[k]<=r.ts[k-1]
   .simp [go_sem,e0,e3,e5,hm,hlt,ha,hb,hk0,hw,hk1,hc]
    rw[bad2 hk0 (by omega)];exact .hf _ (HF.sc _)
   .simp [go_sem,e0,e3,e5,hm,hlt,ha,hb,hk0,hw,hk1,hc]
    exact(next (by omega) (by omega) (fun _=>by omega)).2
  .simp [go_sem,e0,e3,e5,hm,hlt,ha,hb,hk0]
   exact(next (by omega) (by omega) (fun _=>by omega)).2
 .have hge:k=r.ts.length:=by omega
  subst hge;have hall:r.ts.all (fun t=>decide (0<=t)&&decide (t<powI n r.ar))=true:=by
   rw[qy];intro t ht;obtain⟨i,hi,rfl⟩:=List.getElem_of_mem ht;have:=he i hi hi;simp;omega
  have hso:zY r.ts:=qdF fun i hi=>by simpa using (he (i+1) hi hi).2.2 (by omega)
  simp[go_sem,e0,e3,e5,hm];simp only[yW,hall,hso,show 0<=n by omega,show n<=12 by omega,show 1<=r.ar by omega,show r.ar<=3 by omega];exact .hf _ (HF.sc _)
theorem UR(a b:List Int)(ha:a.length<=9223372036854775807):qi qd 152 [lI a,lI b] (aB (decide (a=b))):=by
 refine qSQ call152 func152 rfl {} ?_;by_cases hn:a.length=b.length
 case neg =>
  simp[go_sem,hn];rw[decide_eq_false (by rintro rfl;exact hn rfl)];exact .hf _ (HF.sc _)
 simp[go_sem,hn];refine ql.up a.length (fun k st=>st.tm 0=lI a/\st.tm 1=lI b/\st.tm 12=aI a.length/\st.tm 13=aI k/\st.mu=[]/\∀(i:Nat) (h:i<a.length) (h':i<b.length),i<k->a[i]=b[i]) ?_ ?_
 .simp [go_sem,hn]
 rintro k st hk ⟨h0,h1,h12,h13,hm,he⟩;by_cases hlt:k<a.length
 .have hlt':k<b.length:=by omega
  simp[go_sem,h0,h1,h12,h13,hm,hlt]
  try refine qe.intro (by kernel_rfl) ?_
  by_cases hb:a[k]=b[k]
  .simp [go_sem,h0,h1,h12,h13,hm,hlt,hlt',hb]
   refine⟨qg (by omega) (by omega),fun i h h' hi=>?_⟩;rcases jU.1 hi with h2|h2
   .exact he i h h' h2
   .subst h2;exact hb
  .simp [go_sem,h0,h1,h12,h13,hm,hlt,hlt',hb]
   rw[decide_eq_false (by rintro rfl;simp at hb)];exact .hf _ (HF.sc _)
 .have hge:k=a.length:=by omega
  subst hge;simp[go_sem,h0,h1,h12,h13,hm];rw[decide_eq_true (List.ext_getElem hn fun i h h'=>he i h h' h)];exact .hf _ (HF.sc _)
theorem J7(a b:Rl)(hl:a.ts.length<=9223372036854775807):qi qd 85 [eRel a,eRel b] (aB (decide (a=b))):=by
 have hab:(a=b)=(a.ar=b.ar/\a.ts=b.ts):=by cases a;cases b;simp
 refine qSQ call85 func85 rfl {} ?_;by_cases h1:a.ar=b.ar
 case neg =>
  simp[go_sem,h1,hab];exact .hf _ (HF.sc _)
 simp[go_sem,h1];refine qb.pure (UR a.ts b.ts hl) (.cons (.hf (zM _)) (.cons (.hf (zM _)) .nil)) ?_;simp[go_sem,h1,hab];exact .hf _ (HF.sc _)
theorem US(a b:Rl)(hl:a.ts.length<=4611686018427387904):qi qd 20 [eRel a,eRel b] (aB (decide (a=b))):=by
 have hab:(a=b)=(a.ar=b.ar/\a.ts=b.ts):=by cases a;cases b;simp
 refine qSQ call20 func20 rfl {} ?_;by_cases h1:a.ar=b.ar
 case neg =>
  simp[go_sem,h1,hab];exact .hf _ (HF.sc _)
 by_cases h2:a.ts.length=b.ts.length
 case neg =>
  simp[go_sem,h1,h2];rw[decide_eq_false (by rintro rfl;exact h2 rfl)];exact .hf _ (HF.sc _)
 simp[go_sem,h1,h2];refine ql.up a.ts.length (fun k st=>st.tm 2 = .ip [aI a.ar,lI a.ts]/\st.tm 3 = .ip [aI b.ar,lI b.ts]/\st.tm 5=aI k/\st.mu=[]/\∀(i:Nat) (h:i<a.ts.length) (h':i<b.ts.length),i<k->a.ts[i]=b.ts[i]) ?_ ?_
 .simp [go_sem,h1]
 rintro k st hk ⟨e2,e3,e5,hm,he⟩;by_cases hlt:k<a.ts.length
 .have hlt':k<b.ts.length:=by omega
  by_cases hb:a.ts[k]=b.ts[k]
  .simp [go_sem,e2,e3,e5,hm,hlt]
   refine qe.intro (by kernel_rfl) ?_;simp[go_sem,e2,e3,e5,hm,hlt,hlt',hb];refine⟨qg (by omega) (by omega),fun i h h' hi=>?_⟩;rcases jU.1 hi with h2|h2
   .exact he i h h' h2
   .subst h2;exact hb
  .simp [go_sem,e2,e3,e5,hm,hlt]
   refine qe.intro (by kernel_rfl) ?_;simp[go_sem,e2,e3,e5,hm,hlt,hlt',hb];rw[decide_eq_false (by rintro rfl;exact hb rfl)];exact .hf _ (HF.sc _)
 .have hge:k=a.ts.length:=by omega
  subst hge;simp[go_sem,e2,e3,e5,hm];rw[decide_eq_true (hab ▸ ⟨h1,List.ext_getElem h2 fun i h h'=>he i h h' h⟩)];exact .hf _ (HF.sc _)
end E4
namespace EO
open YS
def FnOk(P:Program)(fv:AV){α:Type}(enc:α->AV)(ok:α->Prop)(g:α->AV):Prop:=
 HF fv/\∃ fid first caps,fv = .fn (.func fid) first caps/\∀ x,ok x->∃ args',WKs (first++[enc x]++caps) args'/\qi P fid args' (g x)
theorem FnOk.call{P:Program}{fv:AV}{α:Type}{enc:α->AV}{ok:α->Prop}{g:α->AV}(h:FnOk P fv enc ok g){x:α}(hx:ok x){det:Bool}{mu:Mu}{K Kp:AV->Mu->Prop}(k:K (g x) mu):qb P det mu fv [enc x] K Kp:=by
 obtain⟨_,fid,first,caps,rfl,h⟩:=h;obtain⟨args',h1,h2⟩:=h x hx;exact .inl ⟨g x,.inl ⟨fid,first,caps,args',rfl,h2,.inl h1⟩,k⟩
def qt:AV->Option Nat
 | .sl b _ _ _=>some b
 |_=>none
def OwnI(mu:Mu)(s:AV)(l:List Int):Prop:=(s = .lst true []/\l=[])\/∃ b,s = .sl b 1 0 l.length/\mu[b]?=some (.arr (l.map aI))
def OwnV(mu:Mu)(s:AV)(l:List Int):Prop:=(s = .lst true []/\l=[])\/∃ b cells,s = .sl b 1 0 l.length/\mu[b]?=some (.arr cells)/\l.length<=cells.length/\cells.take l.length=l.map aI
theorem OwnI.v{mu:Mu}{s:AV}{l:List Int}(h:OwnI mu s l):OwnV mu s l:=by
 rcases h with h|⟨b,h1,h2⟩
 .exact .inl h
 .exact .inr ⟨b,_,h1,h2,by simp,by rw[zU (by simp)]⟩
theorem OwnV.one{mu:Mu}{s:AV}{l:List Int}(h:OwnV mu s l):s.one=true:=by
 rcases h with ⟨rfl,_⟩|⟨b,c,rfl,_⟩<;>rfl
theorem OwnV.cells{mu:Mu}{s:AV}{l:List Int}(h:OwnV mu s l):s.cells=[s]:=by
 rcases h with ⟨rfl,_⟩|⟨b,c,rfl,_⟩<;>rfl
theorem OwnV.same{mu mu':Mu}{s:AV}{l:List Int}(h:OwnV mu s l)(hs:∀ b,qt s=some b->mu'[b]?=mu[b]?):OwnV mu' s l:=by
 rcases h with h|⟨b,c,rfl,hc,h1,h2⟩
 .exact .inl h
 .exact .inr ⟨b,c,rfl,by rw[hs b rfl];exact hc,h1,h2⟩
theorem OwnI.same{mu mu':Mu}{s:AV}{l:List Int}(h:OwnI mu s l)(hs:∀ b,qt s=some b->mu'[b]?=mu[b]?):OwnI mu' s l:=by
 rcases h with h|⟨b,rfl,hc⟩
 .exact .inl h
 .exact .inr ⟨b,rfl,by rw[hs b rfl];exact hc⟩
theorem OwnV.lt{mu:Mu}{s:AV}{l:List Int}(h:OwnV mu s l){b:Nat}(hb:qt s=some b):b<mu.length:=by
 rcases h with ⟨rfl,_⟩|⟨b',c,rfl,hc,_⟩
 .cases hb
 .cases hb;exact(qk.1 hc).1
theorem OwnV.rd{mu:Mu}{s:AV}{l:List Int}(h:OwnV mu s l):Rd mu s (lI l):=by
 rcases h with ⟨rfl,rfl⟩|⟨b,cells,rfl,hc,h1,h2⟩
 .exact .wk _ true _ (.hf _ (HF.lst fun r hr=>by simp at hr))
 .refine .sl b 1 0 _ cells _ hc (by simpa using h1) (by simp) (fun x hx=>by
   obtain⟨l,_,rfl⟩:=qs.1 hx;rfl) (fun k x y hx hy=>?_)
  rw[yC]at hx;rw[JY,<-h2,yN]at hy;split at hy
  .rw [hx]at hy;cases hy
   have:x∈cells.take l.length:=by
    refine qS (i:=k) ?_;rw[yN,if_pos (by assumption)];exact hx
   rw[h2]at this;obtain⟨z,_,rfl⟩:=qs.1 this;exact .hf _ (HF.sc _)
  .exact absurd hy (by simp)
theorem qF.ownVs{P:Program}{mu:Mu}{t t' e bt:Nat}{s x:AV}{l ys:List Int}{z:Int}{K:AV->Mu->Prop}(hs:qJ P t=some (e,1,bt))(hs':(qJ P t').isSome=true)(hz:qz P e=some (aI z))
  (hb:bt<=16384) (ho:OwnV mu s l) (hx:qG mu x=some (ys.map rI)) (hl:l.length+ys.length<=4294967296)
  (k:∀ av mu',OwnI mu' av (l++ys)->(∀ i,i<mu.length->qt s≠some i->mu'[i]?=mu[i]?)->mu.length<=mu'.length->(∀ b,qt av=some b->b=mu.length)->K av mu'):qF P mu #[t,t'] s x K:=by
 refine .inl ⟨t,t',e,1,bt,ys.map rI,rfl,hs,hs',⟨_,hz,rfl,rfl⟩,by omega,hb,hx,uT ys,?_⟩;rcases ho with ⟨rfl,rfl⟩|⟨b,cells,rfl,hc,h1,h2⟩
 .refine .inl ⟨[],rfl,fun r hr=>by simp at hr,by simpa using hl,fun h=>?_,fun h=>?_⟩
  .have:ys=[]:=by simpa using h
   subst this;exact k _ _ (.inl ⟨rfl,rfl⟩) (fun _ _ _=>rfl) (qr _) (fun _ h=>by cases h)
  .refine k _ _ (.inr ⟨mu.length,by simp,by simp[JY]⟩) (fun i hi _=>?_) (by simp) (fun b h=>by cases h;rfl)
   rw[qp hi]
 .refine .inr ⟨b,l.length,cells,rfl,hc,by simpa using h1,by simpa using hl,?_⟩
  have e1:cells.take (l.length*1)++(ys.map rI).flatten=(l++ys).map aI:=by rw[Nat.mul_one,h2,zm,JY]
  have e2:l.length+(ys.map rI).length=(l++ys).length:=by simp
  rw[e1,e2];refine k _ _ (.inr ⟨mu.length,rfl,?_⟩) (fun i hi hne=>?_) (by simp) (fun b h=>by cases h;rfl)
  .rw [qV (by simp)];simp
  .rw [qp (by simpa using hi),qK (fun h=>hne (by rw[h];rfl))]
theorem qF.ownV1{P:Program}{mu:Mu}{t t' e bt:Nat}{s:AV}{l:List Int}{x z:Int}{K:AV->Mu->Prop}(hs:qJ P t=some (e,1,bt))(hs':(qJ P t').isSome=true)(hz:qz P e=some (aI z))
  (hb:bt<=16384) (ho:OwnV mu s l) (hl:l.length+1<=4294967296)
  (k:∀ av mu',OwnI mu' av (l++[x])->(∀ i,i<mu.length->qt s≠some i->mu'[i]?=mu[i]?)->mu.length<=mu'.length->(∀ b,qt av=some b->b=mu.length)->K av mu'):qF P mu #[t,t'] s (.lst true [[aI x]]) K:=
 qF.ownVs (ys:=[x]) hs hs' hz hb ho rfl hl k
theorem sumG(l:List Int)(hl:l.length<=1000000)(hb:∀ k,0<=sumI (l.take k)/\sumI (l.take k)<=1000000):qi qd 162 [lI l] (aI (sumI l)):=by
 refine qSQ call162 func162 rfl {} ?_;simp[go_sem];refine ql.up l.length (fun k st=>st.tm 6=lI l/\st.tm 7=aI l.length/\st.tm 3=aI (sumI (l.take k))/\st.tm 8=aI k/\st.mu=[]) ?_ ?_
 .simp [go_sem,sumI]
 rintro k st hk ⟨e6,e7,e3,e8,hm⟩;by_cases hlt:k<l.length
 .have hs:=Qe l k hlt
  have hb':=hb (k+1);rw[hs]at hb';simp[go_sem,e6,e7,e3,e8,hm,hlt];exact⟨by rw[hs,qg (by omega) (by omega)],qg (by omega) (by omega)⟩
 .have hge:k=l.length:=by omega
  subst hge;simp[go_sem,e6,e7,e3,e8,hm];exact .hf _ (HF.sc _)
theorem UT(sc:Sc)(g:GSc sc):qi qd 97 [eSc sc] (aI (sumI sc.atoms)):=by
 refine qSQ call97 func97 rfl {} ?_;simp[go_sem];refine qb.pure (sumG _ (q7 g.1 (by omega)) fun k=>by have:=g.sum k;omega) (.cons (.hf (zM _)) .nil) ?_;simp[go_sem];exact .hf _ (HF.sc _)
theorem qdT(sc:Sc)(g:GSc sc)(s:Nat)(hs:s<=sc.atoms.length):qi qd 234 [eSc sc,aI s] (aI (sumI (sc.atoms.take s))):=by
 refine qSQ call234 func234 rfl {} ?_;have hw:WKs [.lst false ((sc.atoms.map rI).take s)] [lI (sc.atoms.take s)] := .cons (by rw[<-List.map_take];exact .hf (zM _)) .nil;simp[go_sem,hs];refine⟨⟨_,_,⟨rfl,rfl⟩,(uT sc.atoms).ok⟩,?_⟩;refine qb.pure (sumG (sc.atoms.take s) (by simp;have:=g.1;omega) fun k=>by rw[List.take_take];have:=g.sum (min k s);omega) hw ?_;simp[go_sem];exact .hf _ (HF.sc _)
def jA{α:Type}(p:α->Bool):List α->Int->Int
 | [],_ => -1
 |x :: l,i=>if p x=true then i else jA p l (i+1)
theorem kI{α:Type}(p:α->Bool)(l:List α)(k:Nat)(i:Int)(h:k<l.length):jA p (l.drop k) i=if p l[k]=true then i else jA p (l.drop (k+1)) (i+1):=by
 rw[zj h,jA]
theorem UU{α:Type}(p:α->Bool):∀(l:List α) (i:Int),0<=i->decide (0<=jA p l i)=l.any p
 | [],i,h=>by simp[jA]
 |x :: l,i,h=>by
  rw[jA,List.any_cons];cases hp:p x with
  |true=>simp[h]
  |false=>simpa using UU p l (i+1) (by omega)
theorem qdU(xs:List Int)(y:Int)(hl:xs.length<=1000000000):qi qd 204 [lI xs,aI y] (aI (jA (fun x=>decide (x=y)) xs 0)):=by
 refine qSQ call204 func204 rfl {} ?_;simp[go_sem];refine ql.up xs.length (fun k st=>st.tm 0=lI xs/\st.tm 1=aI y/\st.tm 7=aI xs.length/\st.tm 8=aI k/\st.mu=[]/\jA (fun x=>decide (x=y)) (xs.drop k) k=jA (fun x=>decide (x=y)) xs 0) ?_ ?_
 .simp [go_sem]
 rintro k st hk ⟨e0,e1,e7,e8,hm,hi⟩;by_cases hlt:k<xs.length
 .rw [kI _ _ _ _ hlt]at hi
  by_cases hx:xs[k]=y
  .rw [if_pos (by simpa using hx)]at hi
   subst hx;simp[go_sem,e0,e1,e7,e8,hm,hlt];rw[<-hi];exact .hf _ (HF.sc _)
  .rw [if_neg (by simpa using hx)]at hi
   have hx':¬y=xs[k]:=fun h=>hx h.symm
   simp[go_sem,e0,e1,e7,e8,hm,hlt,hx'];exact⟨qg (by omega) (by omega),hi⟩
 .have hge:k=xs.length:=by omega
  subst hge;rw[zL]at hi;simp[go_sem,e0,e1,e7,e8,hm];rw[<-hi];exact .hf _ (HF.sc _)
theorem qdV(xs:List Int)(y:Int)(hl:xs.length<=1000000000):qi qd 176 [lI xs,aI y] (aB (decide (y∈xs))):=by
 refine qSQ call176 func176 rfl {} ?_;simp[go_sem];refine qb.pure (qdU xs y hl) (.cons (.hf (zM _)) (.cons (.hf (HF.sc _)) .nil)) ?_;have e:decide (y∈xs)=decide (0<=jA (fun x=>decide (x=y)) xs 0):=by
  rw[UU _ _ _ (by omega),jG,List.any_eq_true];simp
 rw[e];simp[go_sem];exact .hf _ (HF.sc _)
abbrev lB(xs:List Bool):AV := .lst false (xs.map fun b=>[aB b])
theorem UV(xs:List Bool):HF (lB xs):=HF.lst fun r hr c hc=>by
 obtain⟨n,_,rfl⟩:=qs.1 hr;simp at hc;subst hc;exact HF.sc _
theorem qdW(xs:List Bool)(y:Bool)(hl:xs.length<=1000000000):qi qd 175 [lB xs,aB y] (aI (jA (fun x=>decide (x=y)) xs 0)):=by
 refine qSQ call175 func175 rfl {} ?_;simp[go_sem];refine ql.up xs.length (fun k st=>st.tm 0=lB xs/\st.tm 1=aB y/\st.tm 7=aI xs.length/\st.tm 8=aI k/\st.mu=[]/\jA (fun x=>decide (x=y)) (xs.drop k) k=jA (fun x=>decide (x=y)) xs 0) ?_ ?_
 .simp [go_sem]
 rintro k st hk ⟨e0,e1,e7,e8,hm,hi⟩;by_cases hlt:k<xs.length
 .rw [kI _ _ _ _ hlt]at hi
  by_cases hx:xs[k]=y
  .rw [if_pos (by simpa using hx)]at hi
   subst hx;simp[go_sem,e0,e1,e7,e8,hm,hlt];rw[<-hi];exact .hf _ (HF.sc _)
  .rw [if_neg (by simpa using hx)]at hi
   have hx':(y == xs[k])=false:=by simpa using fun h=>hx h.symm
   simp[go_sem,e0,e1,e7,e8,hm,hlt,hx'];exact⟨qg (by omega) (by omega),hi⟩
 .have hge:k=xs.length:=by omega
  subst hge;rw[zL]at hi;simp[go_sem,e0,e1,e7,e8,hm];rw[<-hi];exact .hf _ (HF.sc _)
theorem qdX(xs:List Bool)(y:Bool)(hl:xs.length<=1000000000):qi qd 124 [lB xs,aB y] (aB (decide (y∈xs))):=by
 refine qSQ call124 func124 rfl {} ?_;simp[go_sem];refine qb.pure (qdW xs y hl) (.cons (.hf (UV _)) (.cons (.hf (HF.sc _)) .nil)) ?_;have e:decide (y∈xs)=decide (0<=jA (fun x=>decide (x=y)) xs 0):=by
  rw[UU _ _ _ (by omega),jG,List.any_eq_true];simp
 rw[e];simp[go_sem];exact .hf _ (HF.sc _)
end EO
namespace F1
open Y1 YF E3 EO
abbrev cMa(x:Mo):List AV:=cMd x.m++(cTS x.ts++[aI x.n])
abbrev eMa(x:Mo):AV := .ip (cMa x)
abbrev cPl(p:Pl):List AV:=[aI p.st,lPm p.env]
abbrev ePl(p:Pl):AV := .agg (cPl p)
theorem qdY(l:List (List Rl)):HF (lSt l):=HF.lst fun r hr c hc=>by
 obtain⟨n,_,rfl⟩:=qs.1 hr;simp at hc;subst hc;exact wF _
theorem J8(m:Md):∀ c,c∈cMd m->HF c:=by
 intro c hc;simp at hc;rcases hc with rfl|rfl|rfl|rfl
 .exact zM _
 .exact HF.sc _
 .exact qdY _
 .exact HF.sc _
theorem yx(m:Md):HF (eMd m):=HF.agg (J8 m)
theorem zp(x:Mo):HF (eMa x):=HF.ip fun c hc=>by
 rcases qT.1 hc with hc|hc
 .exact J8 _ c hc
 .rcases qT.1 hc with hc|hc
  .exact kc _ c hc
  .rw [qW]at hc;subst hc;exact HF.sc _
theorem J9(p:Pl):HF (ePl p):=HF.agg fun c hc=>by
 simp at hc;rcases hc with rfl|rfl
 .exact HF.sc _
 .exact yH _
theorem wk3(x:Mo)(p:Pl)(n:Nd):WKs [eMa x,ePl p,eNd n] [eMa x,ePl p,eNd n] := .cons (.hf (zp x)) (.cons (.hf (J9 p)) (.cons (.hf (qI n)) .nil))
abbrev errV(e:Int):AV := .ifc 43 (aI e)
theorem qE(e:Int):HF (errV e):=HF.ifc (HF.sc _)
def endE:XE Rl->AEnd
 | .ok r => .ret (eRel r)
 | .error e => .pan (errV e)
def endN:XE Int->AEnd
 | .ok r => .ret (aI r)
 | .error e => .pan (errV e)
def endB:XE Bool->AEnd
 | .ok r => .ret (aB r)
 | .error e => .pan (errV e)
def end2:XE (Rl×Rl)->AEnd
 | .ok r => .ret (.tup [eRel r.1,eRel r.2])
 | .error e => .pan (errV e)
@[go_sem] theorem endE_ok(r:Rl):endE (.ok r) = .ret (eRel r):=rfl
@[go_sem] theorem endE_err(e:Int):endE (.error e) = .pan (errV e):=rfl
@[go_sem] theorem endN_ok(r:Int):endN (.ok r) = .ret (aI r):=rfl
@[go_sem] theorem endN_err(e:Int):endN (.error e) = .pan (errV e):=rfl
@[go_sem] theorem endB_ok(r:Bool):endB (.ok r) = .ret (aB r):=rfl
@[go_sem] theorem endB_err(e:Int):endB (.error e) = .pan (errV e):=rfl
@[go_sem] theorem end2_ok(r:Rl×Rl):end2 (.ok r) = .ret (.tup [eRel r.1,eRel r.2]):=rfl
@[go_sem] theorem end2_err(e:Int):end2 (.error e) = .pan (errV e):=rfl
theorem ux(e:Int):qH qd 110 [aI e] (.pan (errV e)):=by
 refine qQ.of_sound ?_;refine qSW call110 func110 rfl {} ?_;simp[go_sem];exact⟨_,_,⟨rfl,rfl⟩,.hf _ (qE _)⟩
theorem wkI(e:Int):WKs [aI e] [aI e] := .cons (.hf (HF.sc _)) .nil
theorem Va(r:Rl)(e:Int):qH qd 163 [eRel r,aI e] (if e=0 then .ret (eRel r) else .pan (errV e)):=by
 refine qQ.of_sound ?_;refine qSW call163 func163 rfl {} ?_;by_cases h:e=0
 .simp [go_sem,h]
  exact .hf _ (qM r)
 .simp [go_sem,h]
  refine qb.pans (ux e) (wkI e) ?_;simp[go_sem];exact .hf _ (qE _)
theorem UW(x:Mo)(g:GSc x.m.sc):qi qd 52 [eTS x.ts,eMd x.m] (eMa x):=by
 refine qSQ call52 func52 rfl {} ?_;simp[go_sem];refine qe.intro (by kernel_rfl) ?_;simp[go_sem];refine qb.pure (UT x.m.sc g) (.cons (.hf (yZ _)) .nil) ?_;simp[go_sem];exact .hf _ (zp x)
theorem UX(mu:Mu)(b:Nat)(e:Int)(hb:mu[b]?=some (.arr [aI e])):zW qd 51 [.ptr b 0] mu none fun mu'=>mu'=mu:=by
 refine zW.of_awp call51 func51 rfl ⟨_,_,_,_,rfl⟩ (jo (by kernel_rfl)) (by kernel_rfl) (by kernel_rfl) (pl:={}) ?_;simp[go_sem]
theorem UY(mu:Mu)(b:Nat)(y e:Int)(hb:mu[b]?=some (.arr [aI y])):zW qd 51 [.ptr b 0] mu (some (errV e)) fun mu'=>mu'=mu.set b (.arr [aI e]):=by
 refine zW.of_awp call51 func51 rfl ⟨_,_,_,_,rfl⟩ (jo (by kernel_rfl)) (by kernel_rfl) (by kernel_rfl) (pl:={}) ?_;simp[go_sem,hb]
end F1
namespace EP
open E1 EO
theorem keyI:KeyT qd 3 (fun n:Int=>aI n) (fun _=>True):=by
 refine⟨fun a b _ _=>?_,fun a _=>by simp[go_sem]⟩;simp[go_sem]
theorem yj{α:Type}{l:List α}{n:Nat}(h:n<l.length):l.take (n+1)=l.take n++[l[n]]:=by rw[List.take_add_one,qv h];rfl
def cntK(f:Int->Int)(ts:List Int):List (Int×Int):=ts.foldl (fun m t=>setK (f t) ((getK (f t) m).getD 0+1) m) []
theorem kJ(f:Int->Int)(ts:List Int)(t:Int):cntK f (ts++[t])=setK (f t) ((getK (f t) (cntK f ts)).getD 0+1) (cntK f ts):=by simp[cntK,Z1]
theorem Vb(f:Int->Int)(ts:List Int):∀ n,n<=ts.length->∀ k:Int,0<=(getK k (cntK f (ts.take n))).getD 0/\(getK k (cntK f (ts.take n))).getD 0<=n/\(0<(getK k (cntK f (ts.take n))).getD 0↔∃ t,t∈ts.take n/\f t=k)
 | 0,_,k=>by simp[cntK,getK]
 |n+1,h,k=>by
  obtain⟨h1,h2,h3⟩:=Vb f ts n (by omega) k;have hlt:n<ts.length:=by omega
  obtain⟨g1,g2,_⟩:=Vb f ts n (by omega) (f ts[n]);rw[yj hlt,kJ,Qi];by_cases hk:k=f ts[n]
  .rw [if_pos hk]
   simp only[Option.getD_some];exact⟨by omega,by omega,fun _=>⟨ts[n],List.mem_append_right _ (qW.2 rfl),hk.symm⟩,fun _=>by omega⟩
  .rw [if_neg hk]
   refine⟨h1,by omega,h3.trans ⟨fun⟨t,ht,e⟩=>⟨t,yO _ ht,e⟩,fun⟨t,ht,e⟩=>?_⟩⟩;rcases qT.1 ht with ht|ht
   .exact ⟨t,ht,e⟩
   .rw [qW]at ht;subst ht;exact absurd e.symm hk
theorem kK(f:Int->Int)(ts:List Int)(k:Int):0<=(getK k (cntK f ts)).getD 0/\(0<(getK k (cntK f ts)).getD 0↔∃ t,t∈ts/\f t=k):=by
 have:=Vb f ts ts.length (qr _) k;rw[zw]at this;exact⟨this.1,this.2.2⟩
def grpK(m:Int)(ys:List Int):List (Int×List Int):=ys.foldl (fun g y=>setK (y / m) ((getK (y / m) g).getD []++[y % m]) g) []
theorem kL(m:Int)(ys:List Int)(y:Int):grpK m (ys++[y])=setK (y / m) ((getK (y / m) (grpK m ys)).getD []++[y % m]) (grpK m ys):=by simp[grpK,Z1]
theorem Vc(m:Int)(ys:List Int):∀ n,n<=ys.length->∀ k:Int,(getK k (grpK m (ys.take n))).getD []=((ys.take n).filter fun y=>decide (y / m=k)).map fun y=>y % m
 | 0,_,k=>by simp[grpK,getK]
 |n+1,h,k=>by
  have ih:=Vc m ys n (by omega);have hlt:n<ys.length:=by omega
  rw[yj hlt,kL,Qi,List.filter_append,zm];by_cases hk:k=ys[n] / m
  .rw [if_pos hk,Option.getD_some,<-hk,ih k]
   simp[hk]
  .rw [if_neg hk,ih k]
   have:¬ys[n] / m=k:=fun e=>hk e.symm
   simp[this]
theorem kM{β:Type}(q:Int->Int)(v:List (Int×β)->Int->β):∀(l:List Int) (g:List (Int×β)),(g.map Prod.fst).Nodup->((l.foldl (fun g y=>setK (q y) (v g y) g) g).map Prod.fst).Nodup
 | [],g,h=>h
 |y :: l,g,h=>kM q v l _ (K1 h)
theorem qdZ(m:Int)(ys:List Int):((grpK m ys).map Prod.fst).Nodup:=kM (fun y=>y / m) (fun g y=>(getK (y / m) g).getD []++[y % m]) ys [] (by simp)
theorem kN{α β:Type}(k:Int)(v:α)(w:β):∀{es:List (Int×α)} {fs:List (Int×β)},es.map Prod.fst=fs.map Prod.fst->(setK k v es).map Prod.fst=(setK k w fs).map Prod.fst
 | [],[],_=>rfl
 |e :: es,f :: fs,h=>by
  simp only[yd,vp]at h;unfold setK;rw[<-h.1];split
  .simp [h.2]
  .simp [h.1,kN k v w h.2]
 | [],_ :: _,h=>by simp at h
 |_ :: _,[],h=>by simp at h
theorem kO{α β:Type}(k:Int):∀{es:List (Int×α)} {fs:List (Int×β)},es.map Prod.fst=fs.map Prod.fst->(getK k es=none↔getK k fs=none)
 | [],[],_=>by simp[getK]
 |e :: es,f :: fs,h=>by
  simp only[yd,vp]at h;unfold getK;rw[<-h.1];split
  .simp
  .exact kO k h.2
 | [],_ :: _,h=>by simp at h
 |_ :: _,[],h=>by simp at h
structure GrpM (mu:Mu) (b:Nat) (g:List (Int×List Int)) (cs:List (Int×AV)):Prop where
 at0:mu[b]?=some (.mp (encK (fun n:Int=>aI n) id cs))
 keys:cs.map Prod.fst=g.map Prod.fst
 own:∀ k v,getK k cs=some v->∃ l,getK k g=some l/\OwnI mu v l
 inj:∀ k k' v v' x,getK k cs=some v->getK k' cs=some v'->qt v=some x->qt v'=some x->k=k'
 ne:∀ k v,getK k cs=some v->qt v≠some b
theorem GrpM.cur{mu:Mu}{b:Nat}{g:List (Int×List Int)}{cs:List (Int×AV)}(h:GrpM mu b g cs)(k:Int):OwnI mu ((getK k cs).getD (.lst true [])) ((getK k g).getD []):=by
 cases hk:getK k cs with
 |none=>rw[(kO k h.keys).1 hk];exact .inl ⟨rfl,rfl⟩
 |some v=>obtain⟨l,h1,h2⟩:=h.own k v hk;rw[h1];exact h2
theorem GrpM.step{mu mu':Mu}{b:Nat}{g:List (Int×List Int)}{cs:List (Int×AV)}(h:GrpM mu b g cs){k:Int}{av:AV}{l:List Int}(ho:OwnI mu' av l)(hs:∀ i,i<mu.length->qt ((getK k cs).getD (.lst true []))≠some i->mu'[i]?=mu[i]?)(hb:∀ x,qt av=some x->x=mu.length) :
  mu'[b]?=some (.mp (encK (fun n:Int=>aI n) id cs))/\GrpM (mu'.set b (.mp (encK (fun n:Int=>aI n) id (setK k av cs)))) b (setK k l g) (setK k av cs):=by
 have hbl:b<mu.length:=(qk.1 h.at0).1;have hbc:qt ((getK k cs).getD (.lst true []))≠some b:=by
  cases hk:getK k cs with
  |none=>simp[qt]
  |some v=>exact h.ne k v hk
 have hb0:=hs b hbl hbc;have hbl':b<mu'.length:=by
  rw[h.at0]at hb0;exact(qk.1 hb0).1
 have hav:qt av≠some b:=fun e=>by have:=hb b e;omega
 have keep:∀{v:AV} {l:List Int},OwnI mu' v l->qt v≠some b->OwnI (mu'.set b (.mp (encK (fun n:Int=>aI n) id (setK k av cs)))) v l:=fun o hn=>o.same fun x hx=>by
  rw[qK (fun e=>hn (by rw[e];exact hx))]
 have old:∀{k':Int} {v:AV} {l:List Int},k'≠k->getK k' cs=some v->OwnI mu v l->OwnI mu' v l:=fun hne hk o=>o.same fun x hx=>by
  have hxl:=o.v.lt hx;refine hs x hxl fun e=>?_
  cases hc:getK k cs with
  |none=>rw[hc]at e;simp[qt]at e
  |some w=>rw[hc]at e;exact hne (h.inj _ _ _ _ x hk hc hx e)
 refine⟨by rw[hb0];exact h.at0,by rw[zb hbl'],kN k _ _ h.keys,fun k' v hk=>?_,fun k1 k2 v1 v2 x hk1 hk2 h1 h2=>?_,fun k' v hk=>?_⟩
 .rw [Qi]at hk⊢
  by_cases e:k'=k
  .rw [if_pos e]at hk⊢;cases hk;exact⟨l,rfl,keep ho hav⟩
  .rw [if_neg e]at hk⊢
   obtain⟨l',h1,h2⟩:=h.own k' v hk;exact⟨l',h1,keep (old e hk h2) (h.ne k' v hk)⟩
 .rw [Qi]at hk1 hk2
  have lt:∀{k' v},getK k' cs=some v->qt v=some x->x<mu.length:=fun hk hx=>by
   obtain⟨l',_,o⟩:=h.own _ _ hk;exact o.v.lt hx
  by_cases e1:k1=k
  .by_cases e2:k2=k
   .rw [e1,e2]
   .rw [if_pos e1]at hk1;rw[if_neg e2]at hk2;cases hk1
    have:=hb x h1;have:=lt hk2 h2;omega
  .by_cases e2:k2=k
   .rw [if_neg e1]at hk1;rw[if_pos e2]at hk2;cases hk2
    have:=hb x h2;have:=lt hk1 h1;omega
   .rw [if_neg e1]at hk1;rw[if_neg e2]at hk2
    exact h.inj _ _ _ _ x hk1 hk2 h1 h2
 .rw [Qi]at hk
  by_cases e:k'=k
  .rw [if_pos e]at hk;cases hk;exact hav
  .rw [if_neg e]at hk;exact h.ne k' v hk
theorem GrpM.nil{mu:Mu}{b:Nat}(h:mu[b]?=some (.mp [])):GrpM mu b [] []:=⟨h,rfl,fun k v hk=>by simp[getK]at hk,fun k k' v v' x hk=>by simp[getK]at hk,fun k v hk=>by simp[getK]at hk⟩
theorem GrpM.rd{mu:Mu}{b:Nat}{g:List (Int×List Int)}{cs:List (Int×AV)}(h:GrpM mu b g cs)(hn:(g.map Prod.fst).Nodup):Rd mu (.mp b) (.im (encK (fun n:Int=>aI n) lI g)):=by
 have hlen:cs.length=g.length:=by have:=congrArg List.length h.keys;simpa using this
 have hnc:(cs.map Prod.fst).Nodup:=by rw[h.keys];exact hn
 refine .mp b _ _ h.at0 (by simp[encK,hlen]) (fun k x y hx hy=>?_) (fun k x y hx hy=>?_)
 .have e:=congrArg (fun l=>l[k]?) h.keys
  simp only[zk]at e hx hy;cases hc:cs[k]? with
  |none=>rw[hc]at hx;cases hx
  |some c =>
   cases hg:g[k]? with
   |none=>rw[hg]at hy;cases hy
   |some d =>
    rw[hc]at hx;rw[hg]at hy;rw[hc,hg]at e;cases hx;cases hy;simp only[q8,qn]at e;simp only[e];exact .hf _ (HF.sc _)
 .have e:=congrArg (fun l=>l[k]?) h.keys
  simp only[zk]at e hx hy;cases hc:cs[k]? with
  |none=>rw[hc]at hx;cases hx
  |some c =>
   cases hg:g[k]? with
   |none=>rw[hg]at hy;cases hy
   |some d =>
    rw[hc]at hx;rw[hg]at hy;rw[hc,hg]at e;cases hx;cases hy;simp only[q8,qn]at e;obtain⟨l,h1,h2⟩:=h.own c.1 c.2 ((UB hnc).2 (qS hc));rw[e]at h1;have:=(UB hn).2 (qS hg:(d.1,d.2)∈g);rw[h1]at this;cases this;exact h2.v.rd
theorem qd0(n m:Int)(x y:List Int):(x.flatMap fun s=>((getK (s % n) (grpK m y)).getD []).map fun t=>s / n*m+t)=joL n m x y:=by
 unfold joL;congr 1;funext s;have:=Vc m y y.length (qr _) (s % n);rw[zw]at this;rw[this,List.map_map];rfl
end EP
namespace EQ
open E1 EJ EM EN EO
theorem qF.zeros{P:Program}{mu:Mu}{t tn e bt n:Nat}{z:Int}{K:AV->Mu->Prop}(hs:qJ P t=some (e,1,bt))(hn:P.underlying tn=some (.int .i64))(hz:qz P e=some (aI z))(hb:bt<=16384)(h0:0<n)(hl:n<=4294967296)
  (k:∀ c:List AV,K (.sl mu.length 1 0 n) (mu++[.arr c])):qF P mu #[t,tn] (.lst true []) (aI n) K:=
 .inr (.inr ⟨t,tn,e,1,bt,_,n,[],rfl,hs,hn,hz,rfl,rfl,by omega,hb,rfl,h0,rfl,fun r hr=>by simp at hr,by simpa using hl,by simpa using k _⟩)
theorem growE(mu:Mu)(n:Nat)(hn:n<=1000000):qY qd 144 [.lst true [],aI n] mu fun e m=>∃ av,e = .ret av/\OwnV m av []/\(∀ i,i<mu.length->m[i]?=mu[i]?)/\mu.length<=m.length/\∀ b,qt av=some b->mu.length<=b:=by
 refine qSW call144 func144 rfl {} ?_;have wz:qj.wrap 0=0:=qg (by omega) (by omega);have w0:qj.wrap (n:Int)=n:=qg (by omega) (by omega);have hnn:¬(n:Int)<0:=by omega
 by_cases hz:n=0
 .subst hz
  simp[go_sem,wz];exact⟨.inl ⟨rfl,rfl⟩,by simp[qt]⟩
 .have hp:0<n:=by omega
  simp[go_sem,wz,w0,hnn,hp];refine⟨⟨_,_,⟨rfl,rfl⟩,fun r hr=>by simp at hr⟩,?_⟩;refine qF.zeros (e:=3) (bt:=8) (z:=0) (by simp[go_sem]) (by simp[go_sem]) (by simp[go_sem]) (by omega) hp (by omega) ?_;intro c;simp[go_sem];refine⟨.inr ⟨mu.length,c,rfl,by simp,by simp,by simp⟩,fun i hi=>by rw[qp hi],by simp[qt]⟩
theorem qd1(mu:Mu)(a b:List Int)(ha:a.length<=100000)(hb:b.length<=100000):qY qd 80 [.lst true [[lI a],[lI b]]] mu fun e m=>∃ av,e = .ret av/\OwnI m av (a++b)/\(∀ i,i<mu.length->m[i]?=mu[i]?)/\mu.length<=m.length/\∀ x,qt av=some x->mu.length<=x:=by
 refine qSW call80 func80 rfl {} ?_;have v1:qj.wrap 1=1:=qg (by omega) (by omega);have v2:qj.wrap 2=2:=qg (by omega) (by omega);simp[go_sem];have n0:¬((a.length:Int)+b.length)<0:=by omega
 refine ql.up 2 (fun k st=>st.tm 0 = .lst true [[lI a],[lI b]]/\st.tm 3=aI ((if 0<k then (a.length:Int) else 0)+(if 1<k then (b.length:Int) else 0))/\st.tm 9 = .lst true [[lI a],[lI b]]/\st.tm 10=aI 2/\st.tm 11=aI k/\st.mu=mu) ?_ ?_
 .simp [go_sem]
 rintro k st hk ⟨e0,e3,e9,e10,e11,hm⟩;by_cases hlt:k<2
 .have:k=0\/k=1:=by omega
  rcases this with rfl|rfl
  .have w1:qj.wrap (a.length:Int)=a.length:=qg (by omega) (by omega)
   have n1:¬(a.length:Int)<0:=by omega
   simp[go_sem,e0,e3,e9,e10,e11,hm,w1,n1,v1]
  .have w1:qj.wrap ((a.length:Int)+b.length)=a.length+b.length:=qg (by omega) (by omega)
   simp[go_sem,e0,e3,e9,e10,e11,hm,w1,n0,v2]
 .have:k=2:=by omega
  subst this;have g:=growE mu (a.length+b.length) (by omega);simp[go_sem,e0,e3,e9,e10,e11,hm];refine qb.eff0 (by simpa using g) ?_ ?_
  .rintro r m ⟨av,h,ho,hs,hl,hb0⟩
   cases h;simp[go_sem,ho.one,e0];refine ql.up 2 (fun k st=>st.tm 25 = .lst true [[lI a],[lI b]]/\st.tm 26=aI 2/\st.tm 27=aI k/\(if k=0 then OwnV st.mu (st.tm 6) [] else OwnI st.mu (st.tm 6) (if k=1 then a else a++b))/\(∀ i,i<mu.length->st.mu[i]?=mu[i]?)/\mu.length<=st.mu.length/\∀ x,qt (st.tm 6)=some x->mu.length<=x) ?_ ?_
   .simp [go_sem,e0]
    exact⟨ho,hs,hl,hb0⟩
   rintro k st' hk ⟨f25,f26,f27,ho,hs,hl,hb0⟩;by_cases hlt:k<2
   .have:k=0\/k=1:=by omega
    rcases this with rfl|rfl
    .rw [if_pos rfl]at ho
     simp[go_sem,f25,f26,f27];refine qF.ownVs (e:=3) (bt:=8) (z:=0) (l:=[]) (ys:=a) (by simp[go_sem]) (by simp[go_sem]) (by simp[go_sem]) (by omega) ho (by simp[qG]) (by simp;omega) ?_;intro av' mu' ho' hs' hl' hb';simp at ho';simp[go_sem,f25,f26,f27,ho'.v.one,v1];refine⟨ho',fun i hi=>?_,by omega,fun x hx=>?_⟩
     .rw [hs' i (by omega) (fun e=>by have:=hb0 i e;omega)];exact hs i hi
     .have:=hb' x hx;omega
    .rw [if_neg (by omega),if_pos rfl]at ho
     simp[go_sem,f25,f26,f27];refine qF.ownVs (e:=3) (bt:=8) (z:=0) (l:=a) (ys:=b) (by simp[go_sem]) (by simp[go_sem]) (by simp[go_sem]) (by omega) ho.v (by simp[qG]) (by omega) ?_;intro av' mu' ho' hs' hl' hb';simp[go_sem,f25,f26,f27,ho'.v.one,v2];refine⟨ho',fun i hi=>?_,by omega,fun x hx=>?_⟩
     .rw [hs' i (by omega) (fun e=>by have:=hb0 i e;omega)];exact hs i hi
     .have:=hb' x hx;omega
   .have:k=2:=by omega
    subst this;rw[if_neg (by omega),if_neg (by omega)]at ho;simp[go_sem,f25,f26,f27];exact⟨ho,hs,hl,hb0⟩
  .rintro r m ⟨av,h,_⟩
   cases h
theorem qd2(mu:Mu):qY qd 142 [.lst true []] mu fun e m=>e = .ret (.tup [])/\m=mu:=by
 refine⟨call142,fun G w vs s ra=>?_⟩;obtain⟨v,rfl,rv⟩:=ra.one_inv;obtain⟨p,cap,rfl⟩:∃ p cap,v = .slice p 0 cap:=by cases rv<;>exact⟨_,_,rfl⟩
 refine(Tryz.slices_Sort_int_none p cap w).mono fun e w' ⟨he,hw⟩=>?_
 subst hw;exact⟨G,mu,.refl s,.inl ⟨_,_,⟨rfl,rfl⟩,he,.tup [] #[] rfl (by simp)⟩⟩
theorem sortA(mu:Mu)(av:AV)(l:List Int)(hl:l.length<=1000000)(ho:OwnI mu av l):qY qd 142 [av] mu fun e m=>e = .ret (.tup [])/\OwnI m av (srtI l)/\(∀ i,qt av≠some i->m[i]?=mu[i]?)/\m.length=mu.length:=by
 rcases ho with ⟨rfl,rfl⟩|⟨b,rfl,hc⟩
 .refine (qd2 mu).monoR ?_
  rintro e m ⟨rfl,rfl⟩;exact⟨rfl,.inl ⟨rfl,by simp[srtI]⟩,fun _ _=>rfl,rfl⟩
 .refine (sortE hc (by omega)).monoR ?_
  rintro e m ⟨rfl,rfl⟩;have hb:b<mu.length:=(qk.1 hc).1;exact⟨rfl,.inr ⟨b,by rw[Yr],by rw[zb hb]⟩,fun i hi=>by rw[qK (fun e=>hi (by rw[e];rfl))],by simp⟩
theorem qd3(mu:Mu)(av:AV)(l:List Int)(hl:l.length<=1000000)(ho:OwnI mu av l):qY qd 143 [av] mu fun e m=>∃ x,e = .ret x/\OwnV m x (cmpc eqI l)/\(∀ i,qt av≠some i->m[i]?=mu[i]?)/\m.length=mu.length/\∀ b,qt x=some b->qt av=some b:=by
 rcases ho with ⟨rfl,rfl⟩|⟨b,rfl,hc⟩
 .refine qSW call143 func143 rfl {} ?_
  simp[go_sem];exact .inl ⟨rfl,rfl⟩
 .refine (qdR mu b l hl hc).monoR ?_
  rintro e m ⟨cells,rfl,rfl,h1,h2⟩;have hb:b<mu.length:=(qk.1 hc).1;refine⟨_,rfl,.inr ⟨b,cells,rfl,by rw[zb hb],?_,h2⟩,fun i hi=>by rw[qK (fun e=>hi (by rw[e];rfl))],by simp,fun x hx=>hx⟩;have:=congrArg List.length h2;simp at this;omega
theorem UZ(mu:Mu)(ar:Int)(av:AV)(l:List Int)(hl:l.length<=1000000)(ho:OwnI mu av l):qY qd 78 [aI ar,av] mu fun e m=>∃ x,e = .ret (.agg [aI ar,x])/\OwnV m x (ofL l)/\(∀ i,i<mu.length->qt av≠some i->m[i]?=mu[i]?)/\mu.length<=m.length/\∀ b,qt x=some b->qt av=some b:=by
 refine qSW call78 func78 rfl {} ?_;have ho1:OwnI (mu++[.arr [aI 0,.lst true []]]) av l:=ho.same fun b hb=>by rw[qp (ho.v.lt hb)]
 have hne:qt av≠some mu.length:=fun h=>by have:=ho.v.lt h;omega
 simp[go_sem];refine qb.eff0 (sortA _ av l hl ho1) ?_ ?_
 .rintro r m ⟨h,ho2,hs2,hl2⟩
  cases h;have hl3:m.length=mu.length+1:=by simpa using hl2
  simp[go_sem];refine qb.eff0 (qd3 _ av _ (by rw[Yr];exact hl) ho2) ?_ ?_
  .rintro r m' ⟨x,h,ho4,hs4,hl4,hb4⟩
   cases h;rw[qdP]at ho4;have hc:m'[mu.length]?=some (.arr [aI 0,.lst true []]):=by rw[hs4 _ hne,hs2 _ hne];simp
   have hset:∀ c,(m'.set mu.length c)[mu.length]?=some c:=fun c=>zb (by omega)
   have hx:qt r≠some mu.length:=fun h=>hne (hb4 _ h)
   simp[go_sem,hc,hset,ho4.one,ho4.cells];refine⟨?_,fun i hi hn=>?_,by omega,hb4⟩
   .exact ho4.same fun b hb=>by rw[qK (fun e=>hx (by rw[e];exact hb))]
   .rw [qK (by omega),hs4 i hn,hs2 i hn,qp hi]
  .rintro r m' ⟨x,h,_⟩
   cases h
 .rintro r m ⟨h,_⟩
  cases h
theorem OwnV.rdRel{mu:Mu}{ar:Int}{av:AV}{l:List Int}(h:OwnV mu av l):Rd mu (.agg [aI ar,av]) (eRel ⟨ar,l⟩):=by
 refine .agg _ _ rfl fun k u v hu hv=>?_
 match k with
 | 0=>simp at hu hv;subst hu;subst hv;exact .hf _ (HF.sc _)
 | 1=>simp at hu hv;subst hu;subst hv;exact h.rd
 |k+2=>simp at hu
theorem y7(a b:Rl)(ha:a.ts.length<=100000)(hb:b.ts.length<=100000):qi qd 37 [eRel a,eRel b] (eRel (unR a b)):=by
 refine qSQ call37 func37 rfl {} ?_;simp[go_sem];refine qe.seg [0,1,2,3,4,5,6,7,8,9] [(0,0,[]),(1,0,[]),(2,0,[]),(3,0,[]),(4,0,[]),(5,0,[]),(6,0,[]),(7,1,[1]),(8,1,[]),(9,1,[])] (by kernel_rfl) (by kernel_rfl) (by simp[go_sem]) ?_;simp[go_sem];refine qb.eff0 (qd1 _ a.ts b.ts ha hb) ?_ ?_
 .rintro r m ⟨av,h,ho,hs,hl,hb0⟩
  cases h;have h0:=hs 0 (by simp);simp at h0;have hn0:qt r≠some 0:=fun h=>by have:=hb0 0 h;simp at this
  simp[go_sem,ho.v.one];refine qb.eff0 (UZ m a.ar r _ (by simp;omega) ho) ?_ ?_
  .rintro r m' ⟨x,h,ho2,hs2,hl2,hb2⟩
   cases h;have h1:=hs2 0 (qk.1 h0).1 hn0;rw[h0]at h1;have hset:∀ c,(m'.set 0 c)[0]?=some c:=fun c=>zb (qk.1 h1).1
   have hx:qt x≠some 0:=fun h=>hn0 (hb2 _ h)
   simp[go_sem,h1,hset,ho2.one,ho2.cells];refine OwnV.rdRel ?_;exact ho2.same fun b hb=>by rw[qK (fun e=>hx (by rw[e];exact hb))]
  .rintro r m' ⟨x,h,_⟩
   cases h
 .rintro r m ⟨x,h,_⟩
  cases h
end EQ
namespace ER
open E1 EO EP EQ
theorem U0(l:List Int)(fv:AV)(p:Int->Bool)(hf:FnOk qd fv (fun x:Int=>aI x) (·∈l) (fun x=>aB (p x)))(hl:l.length<=1000000):qi qd 147 [lI l,fv] (lI (l.filter p)):=by
 refine qSQ call147 func147 rfl {} ?_;simp[go_sem];refine ql.keep (fun m st=>∃ k,m=l.length-k/\k<=l.length/\st.tm 1=fv/\st.tm 8=lI l/\st.tm 9=aI l.length/\st.tm 10=aI (k:Nat)/\OwnI st.mu (st.tm 5) ((l.take k).filter p)) l.length ?_ ?_
 .exact ⟨0,by omega,by omega,by simp[go_sem],by simp[go_sem],by simp[go_sem],by simp[go_sem],.inl ⟨by simp[go_sem],rfl⟩⟩
 rintro m st ⟨k,rfl,hk,e1,e8,e9,e10,ho⟩;by_cases hlt:k<l.length
 .have w1:qj.wrap ((k:Int)+1)=(k:Int)+1:=qg (by omega) (by omega)
  have hlen:((l.take k).filter p).length<=k:=q7 (List.length_filter_le _ _) (by simp;omega);simp[go_sem,e1,e8,e9,e10,hlt];refine FnOk.call (enc:=fun x:Int=>aI x) hf (qu hlt) ?_;cases hp:p l[k] with
  |true =>
   have hs:(l.take (k+1)).filter p=(l.take k).filter p++[l[k]]:=by rw[yj hlt,List.filter_append];simp[hp]
   simp[go_sem,e1,e8,e9,e10,hlt];refine qF.ownV1 (e:=3) (bt:=8) (z:=0) (l:=(l.take k).filter p) (by simp[go_sem]) (by simp[go_sem]) (by simp[go_sem]) (by omega) ho.v (by omega) ?_;intro av mu' ho' _ _ _;simp[go_sem,e1,e8,e9,e10,hlt,w1,ho'.v.one];refine Keep.loop (l.length-(k+1)) (by omega) ⟨k+1,rfl,by omega,by simp[go_sem,e1],by simp[go_sem,e8],by simp[go_sem,e9],by simp[go_sem],?_⟩;rw[hs];simpa[go_sem] using ho'
  |false =>
   have hs:(l.take (k+1)).filter p=(l.take k).filter p:=by rw[yj hlt,List.filter_append];simp[hp]
   simp[go_sem,e1,e8,e9,e10,hlt,w1];refine Keep.loop (l.length-(k+1)) (by omega) ⟨k+1,rfl,by omega,by simp[go_sem,e1],by simp[go_sem,e8],by simp[go_sem,e9],by simp[go_sem],?_⟩;rw[hs];simpa[go_sem] using ho
 .have hge:k=l.length:=by omega
  subst hge;rw[zw]at ho;simp[go_sem,e1,e8,e9,e10];exact ho.v.rd
theorem U1(x:Int):qi qd 146 [aI x] (aI x):=by
 refine qSQ call146 func146 rfl {} ?_;simp[go_sem];exact .hf _ (HF.sc _)
abbrev imC(l:List (Int×Int)):AV := .im (encK (fun n:Int=>aI n) (fun n:Int=>aI n) l)
theorem Qo(l:List (Int×Int)):HF (imC l):=HF.im fun p hp=>by
 obtain⟨q,_,rfl⟩:=qs.1 hp;exact⟨HF.sc _,HF.sc _⟩
theorem setU(r:Rl)(fv:AV)(f:Int->Int)(hf:FnOk qd fv (fun x:Int=>aI x) (·∈r.ts) (fun x=>aI (f x)))(hl:r.ts.length<=1000000):qi qd 145 [eRel r,fv] (imC (cntK f r.ts)):=by
 refine qSQ call145 func145 rfl {} ?_;simp[go_sem];obtain⟨B,hB⟩:∃ B,B=AV.mp 0:=⟨_,rfl⟩;refine ql.up r.ts.length (fun k st=>st.tm 1=fv/\st.tm 5=B/\st.tm 10=lI r.ts/\st.tm 11=aI r.ts.length/\st.tm 12=aI k/\st.mu[0]?=some (.mp (encK (fun n:Int=>aI n) (fun n:Int=>aI n) (cntK f (r.ts.take k))))) ?_ ?_
 .simp [go_sem,cntK,encK,hB]
 rintro k st hk ⟨e1,e5,e10,e11,e12,hm⟩;by_cases hlt:k<r.ts.length
 .have w1:qj.wrap ((k:Int)+1)=(k:Int)+1:=qg (by omega) (by omega)
  obtain⟨c1,c2,_⟩:=Vb f r.ts k (by omega) (f r.ts[k]);have hs:=kJ f (r.ts.take k) r.ts[k];rw[<-yj hlt]at hs;have hl1:=keyI.look (et:=3) (t:=175) (by simp[go_sem]) (mu:=st.mu) (m := .mp 0) (venc:=fun n:Int=>aI n) (es:=cntK f (r.ts.take k)) (by simp only[js,hm]) (k:=f r.ts[k]) trivial (fun _ _=>trivial) (z:=aI 0) (by simp[go_sem]) false;have hlook:z7 qd st.mu 175 B (aI (f r.ts[k])) false=some (aI ((getK (f r.ts[k]) (cntK f (r.ts.take k))).getD 0)):=by
   rw[hB];refine Eq.trans hl1 ?_;cases getK (f r.ts[k]) (cntK f (r.ts.take k))<;>rfl
  have hupd:vw qd st.mu 175 (.mp 0) (aI (f r.ts[k])) (aI ((getK (f r.ts[k]) (cntK f (r.ts.take k))).getD 0+1))=_:=keyI.update (et:=3) (t:=175) (by simp[go_sem]) (mu:=st.mu) (b:=0) (venc:=fun n:Int=>aI n) (es:=cntK f (r.ts.take k)) hm (k:=f r.ts[k]) (v:=(getK (f r.ts[k]) (cntK f (r.ts.take k))).getD 0+1) trivial (fun _ _=>trivial);rw[<-hs,<-hB]at hupd;have hlen:0<st.mu.length:=(qk.1 hm).1;generalize (getK (f r.ts[k]) (cntK f (r.ts.take k))).getD 0=c at *
  have w2:qj.wrap (c+1)=c+1:=qg (by omega) (by omega);simp[go_sem,e1,e5,e10,e11,e12,hlt];refine FnOk.call (enc:=fun x:Int=>aI x) hf (qu hlt) ?_;simp[go_sem,e1,e5,e10,e11,e12,hlt,hlook,w1,w2];subst hB;refine OptK.intro _ hupd ?_;simp[go_sem,e1,e5,e10,e11,e12,hlt,w1,hlen]
 .have hge:k=r.ts.length:=by omega
  subst hge;rw[zw]at hm;simp[go_sem,e1,e5,e10,e11,e12];rw[hB];exact .mp 0 _ _ hm rfl (fun k x y hx hy=>by rw[hx]at hy;cases hy;obtain⟨q,_,e⟩:=qs.1 (qS hx);rw[<-e];exact .hf _ (HF.sc _)) (fun k x y hx hy=>by rw[hx]at hy;cases hy;obtain⟨q,_,e⟩:=qs.1 (qS hx);rw[<-e];exact .hf _ (HF.sc _))
theorem FnOk.same(ok:Int->Prop):FnOk qd (.fn (.func 146) [] []) (fun x:Int=>aI x) ok (fun x=>aI x):=
 ⟨HF.fn (by simp) (by simp),_,[],[],rfl,fun x _=>⟨_,.cons (.hf (HF.sc _)) .nil,U1 x⟩⟩
theorem U2(mu:Mu)(f:Int->Int)(ts:List Int)(k:Int):z7 qd mu 175 (imC (cntK f ts)) (aI k) false=some (aI ((getK k (cntK f ts)).getD 0)):=by
 have:=keyI.look (et:=3) (t:=175) (by simp[go_sem]) (mu:=mu) (m:=imC (cntK f ts)) (venc:=fun n:Int=>aI n) (es:=cntK f ts) rfl (k:=k) trivial (fun _ _=>trivial) (z:=aI 0) (by simp[go_sem]) false;simp only[z7];refine Eq.trans this ?_;cases getK k (cntK f ts)<;>rfl
theorem qd4(f:Int->Int)(ts:List Int)(x:Int):qi qd 148 [aI x,.ip [imC (cntK f ts)]] (aB (decide (0<(getK x (cntK f ts)).getD 0))):=by
 refine qSQ call148 func148 rfl {} ?_;have hl:=fun mu=>U2 mu f ts x
 generalize imC (cntK f ts)=B at *
 simp[go_sem,hl];exact .hf _ (HF.sc _)
theorem qd5(f:Int->Int)(ts:List Int)(x:Int):qi qd 149 [aI x,.ip [imC (cntK f ts)]] (aB (decide ((getK x (cntK f ts)).getD 0=0))):=by
 refine qSQ call149 func149 rfl {} ?_;have hl:=fun mu=>U2 mu f ts x
 generalize imC (cntK f ts)=B at *
 simp[go_sem,hl];exact .hf _ (HF.sc _)
theorem yI{x:AV}(h:HF x):HF (.ip [x]):=HF.ip fun c hc=>by simp at hc;subst hc;exact h
theorem kP(ts:List Int)(x:Int):(0<(getK x (cntK (fun x=>x) ts)).getD 0↔x∈ts)/\((getK x (cntK (fun x=>x) ts)).getD 0=0↔¬x∈ts):=by
 obtain⟨h1,h2⟩:=kK (fun x=>x) ts x;have h3:(∃ t,t∈ts/\t=x)↔x∈ts:=⟨fun⟨t,ht,e⟩=>e ▸ ht,fun h=>⟨x,h,rfl⟩⟩;rw[h3]at h2;exact⟨h2,by rw[<-h2];omega⟩
theorem Rd.ip1{mu:Mu}{b:Nat}{x y:AV}(hc:mu[b]?=some (.arr [x]))(h:Rd mu x y):Rd mu (.ptr b 0) (.ip [y]):=by
 refine .ptr b 0 [x] [y] hc (by simp) fun k u v hu hv=>?_
 match k with
 | 0=>simp at hu hv;subst hu;subst hv;exact h
 |k+1=>simp at hv
theorem Zz(a b:Rl)(ha:a.ts.length<=1000000)(hb:b.ts.length<=1000000):qi qd 81 [eRel a,eRel b] (eRel (inR a b)):=by
 refine qSQ call81 func81 rfl {} ?_;have hs:=setU b _ _ (FnOk.same (·∈b.ts)) hb;have hk:=U0 a.ts (.fn (.func 148) [] [.ip [imC (cntK (fun x=>x) b.ts)]]) (fun t=>decide (t∈b.ts)) ⟨HF.fn (by simp) (by simp;exact yI (Qo _)),_,[],_,rfl,fun x _=>⟨_,.cons (.hf (HF.sc _)) (.cons (.hf (yI (Qo _))) .nil),by have:=qd4 (fun x=>x) b.ts x;simp only[(kP b.ts x).1]at this;exact this⟩⟩ ha;have hw:WKs [eRel b,.fn (.func 146) [] []] [eRel b,.fn (.func 146) [] []] := .cons (.hf (qM b)) (.cons (.hf (HF.fn (by simp) (by simp))) .nil);have hfi:=Qo (cntK (fun x=>x) b.ts);have hBc:(imC (cntK (fun x=>x) b.ts)).cells=[imC (cntK (fun x=>x) b.ts)]:=rfl;have hBo:(imC (cntK (fun x=>x) b.ts)).one=true:=rfl;generalize imC (cntK (fun x=>x) b.ts)=B at *
 have hw2:WKs [lI a.ts,.fn (.func 148) [] [.ip [B]]] [lI a.ts,.fn (.func 148) [] [.ip [B]]] := .cons (.hf (zM _)) (.cons (.hf (HF.fn (by simp) (by simp;exact yI hfi))) .nil);simp[go_sem];refine qb.pure hs hw ?_;simp[go_sem,hBc,hBo];refine qe.fz (FzQ.one (d:=5) (b:=1) (x := .ip [B]) (Rd.ip1 rfl (.hf _ hfi)) ?_);simp[go_sem,cutM];refine qe.intro (by kernel_rfl) ?_;simp[go_sem];refine qb.pure hk hw2 ?_;simp[go_sem];exact .hf _ (qM (inR a b))
theorem Vd(a b:Rl)(ha:a.ts.length<=1000000)(hb:b.ts.length<=1000000):qi qd 82 [eRel a,eRel b] (eRel (diR a b)):=by
 refine qSQ call82 func82 rfl {} ?_;have hs:=setU b _ _ (FnOk.same (·∈b.ts)) hb;have hk:=U0 a.ts (.fn (.func 149) [] [.ip [imC (cntK (fun x=>x) b.ts)]]) (fun t=>decide (¬t∈b.ts)) ⟨HF.fn (by simp) (by simp;exact yI (Qo _)),_,[],_,rfl,fun x _=>⟨_,.cons (.hf (HF.sc _)) (.cons (.hf (yI (Qo _))) .nil),by have:=qd5 (fun x=>x) b.ts x;simp only[(kP b.ts x).2]at this;exact this⟩⟩ ha;have hw:WKs [eRel b,.fn (.func 146) [] []] [eRel b,.fn (.func 146) [] []] := .cons (.hf (qM b)) (.cons (.hf (HF.fn (by simp) (by simp))) .nil);have hfi:=Qo (cntK (fun x=>x) b.ts);have hBc:(imC (cntK (fun x=>x) b.ts)).cells=[imC (cntK (fun x=>x) b.ts)]:=rfl;have hBo:(imC (cntK (fun x=>x) b.ts)).one=true:=rfl;generalize imC (cntK (fun x=>x) b.ts)=B at *
 have hw2:WKs [lI a.ts,.fn (.func 149) [] [.ip [B]]] [lI a.ts,.fn (.func 149) [] [.ip [B]]] := .cons (.hf (zM _)) (.cons (.hf (HF.fn (by simp) (by simp;exact yI hfi))) .nil);simp[go_sem];refine qb.pure hs hw ?_;simp[go_sem,hBc,hBo];refine qe.fz (FzQ.one (d:=5) (b:=1) (x := .ip [B]) (Rd.ip1 rfl (.hf _ hfi)) ?_);simp[go_sem,cutM];refine qe.intro (by kernel_rfl) ?_;simp[go_sem];refine qb.pure hk hw2 ?_;simp[go_sem];have e:diR a b=⟨a.ar,a.ts.filter fun t=>!decide (t∈b.ts)⟩:=by simp[diR]
 have h:=qM (diR a b);rw[e]at h⊢;exact .hf _ h
theorem inU(a b:Rl)(ha:a.ts.length<=1000000)(hb:b.ts.length<=1000000):qi qd 84 [eRel a,eRel b] (aB (decide ((diR a b).ts=[]))):=by
 refine qSQ call84 func84 rfl {} ?_;simp[go_sem];refine qb.pure (Vd a b ha hb) (.cons (.hf (qM a)) (.cons (.hf (qM b)) .nil)) ?_;simp[go_sem];exact .hf _ (HF.sc _)
end ER
namespace E2
open E1
theorem ZA{n k:Int}(h0:0<=k)(h3:k<=3):powI n k=n ^ k.toNat:=by
 unfold powI powN;congr 1;omega
theorem uy{n i j:Int}(hi:0<=i)(hj:0<=j)(h:i+j<=3):powI n (i+j)=powI n i*powI n j:=by
 rw[ZA (by omega) h,ZA hi (by omega),ZA hj (by omega),<-Int.pow_add];congr 1;omega
theorem vV(n:Int):powI n 1=n:=by rw[ZA (by omega) (by omega)];exact Int.pow_succ n 0 ▸ by simp
theorem qd6{n:Int}(h:0<=n)(k:Int):0<=powI n k:=Int.pow_nonneg h
theorem Yv{u v a m:Int}(h0:0<=u)(h1:u<a)(h2:0<=v)(h3:v<m):0<=u*m+v/\u*m+v<a*m:=by
 have a1:0<=u*m:=Int.mul_nonneg h0 (by omega);have a2:(u+1)*m<=a*m:=Int.mul_le_mul_of_nonneg_right (by omega) (by omega);rw[Int.add_mul,Int.one_mul]at a2;omega
theorem GR.prod{n:Int}(h0:0<=n){a b:Rl}(ha:GR n a)(hb:GR n b)(h:a.ar+b.ar<=3):GR n (prR n a b):=by
 have a1:=ha.ar1;have b1:=hb.ar1;refine⟨by show 1<=a.ar+b.ar;omega,h,fun t ht=>?_,?_⟩
 .obtain ⟨s,hs,ht⟩:=Z2.1 ht
  obtain⟨u,hu,rfl⟩:=qs.1 ht;show 0<=s*powI n b.ar+u/\s*powI n b.ar+u<powI n (a.ar+b.ar);rw[uy (by omega) (by omega) h];exact Yv (ha.val s hs).1 (ha.val s hs).2 (hb.val u hu).1 (hb.val u hu).2
 .unfold zY
  show (a.ts.flatMap fun s=>b.ts.map fun t=>s*powI n b.ar+t).Pairwise (·<·);rw[List.pairwise_flatMap];refine⟨fun s hs=>?_,?_⟩
  .rw [List.pairwise_map]
   exact List.Pairwise.imp (fun h=>by omega) hb.srt
  .refine List.Pairwise.imp_of_mem (fun {s s'} hs hs' h x hx y hy=>?_) ha.srt
   obtain⟨u,hu,rfl⟩:=qs.1 hx;obtain⟨v,hv,rfl⟩:=qs.1 hy;have e1:=hb.val u hu;have e2:=hb.val v hv;have e3:(s+1)*powI n b.ar<=s' * powI n b.ar:=Int.mul_le_mul_of_nonneg_right (by omega) (qd6 h0 _);rw[Int.add_mul,Int.one_mul]at e3;omega
theorem GR.ofL{n:Int}{ar:Int}{l:List Int}(h1:1<=ar)(h3:ar<=3)(h:∀ t,t∈l->0<=t/\t<powI n ar):GR n ⟨ar,ofL l⟩:=by
 obtain⟨s1,s2⟩:=J5 l;exact⟨h1,h3,fun t ht=>h t ((s2 t).1 ht),s1⟩
theorem GR.join{n:Int}(h0:0<=n){a b:Rl}(ha:GR n a)(hb:GR n b)(h1:1<=a.ar+b.ar-2)(h3:a.ar+b.ar-2<=3):GR n (joR n a b):=by
 have a1:=ha.ar1;have b1:=hb.ar1;have a3:=ha.ar3;have b3:=hb.ar3;refine GR.ofL h1 h3 fun t ht=>?_
 obtain⟨s,hs,ht⟩:=Z2.1 ht;obtain⟨u,hu,rfl⟩:=qs.1 ht;have hu:=(vn.1 hu).1;obtain⟨s0,s1⟩:=ha.val s hs;obtain⟨u0,u1⟩:=hb.val u hu;have ea:powI n a.ar=powI n (a.ar-1)*n:=by
  have:=uy (n:=n) (i:=a.ar-1) (j:=1) (by omega) (by omega) (by omega);rw[vV]at this;rw[<-this];congr 1;omega
 have eb:powI n b.ar=powI n (b.ar-1)*n:=by
  have:=uy (n:=n) (i:=b.ar-1) (j:=1) (by omega) (by omega) (by omega);rw[vV]at this;rw[<-this];congr 1;omega
 have hn:0<n:=by
  rcases Int.lt_or_eq_of_le h0 with h|h
  .exact h
  .exfalso;rw[<-h]at ea;rw[Int.mul_zero]at ea;rw[<-h,ea]at s1;omega
 have hm:0<powI n (b.ar-1):=Int.pow_pos hn;have hd:s / n<powI n (a.ar-1):=Int.ediv_lt_of_lt_mul hn (by rw[<-ea];exact s1);rw[show a.ar+b.ar-2=(a.ar-1)+(b.ar-1) by omega,uy (by omega) (by omega) (by omega)];exact Yv (Int.ediv_nonneg s0 (by omega)) hd (Int.emod_nonneg _ (by omega)) (Int.emod_lt_of_pos _ hm)
theorem GR.trans{n:Int}(h0:0<=n){a:Rl}(ha:GR n a)(h:a.ar=2):GR n (trR n a):=by
 have e2:powI n 2=n*n:=by
  have:=uy (n:=n) (i:=1) (j:=1) (by omega) (by omega) (by omega);rw[vV]at this;exact this
 refine GR.ofL (by omega) (by omega) fun t ht=>?_
 obtain⟨s,hs,rfl⟩:=qs.1 ht;obtain⟨s0,s1⟩:=ha.val s hs;rw[h,e2]at s1;have hn:0<n:=by
  rcases Int.lt_or_eq_of_le h0 with h|h
  .exact h
  .exfalso;rw[<-h,Int.mul_zero]at s1;omega
 rw[e2];exact Yv (Int.emod_nonneg _ (by omega)) (Int.emod_lt_of_pos _ hn) (Int.ediv_nonneg s0 (by omega)) (Int.ediv_lt_of_lt_mul hn s1)
theorem GR.clos{n:Int}(h0:0<=n):∀(f:Nat) {c:Rl},GR n c->c.ar=2->GR n (clR n f c)/\(clR n f c).ar=2
 | 0,c,g,h=>⟨g,h⟩
 |f+1,c,g,h=>by
  rw[clR];split
  .exact ⟨g,h⟩
  .have gj:=GR.join h0 g g (by omega) (by omega)
   have gu:=GR.union g gj (by show c.ar=c.ar+c.ar-2;omega);exact GR.clos h0 f gu h
theorem GR.over{n:Int}{a b:Rl}(ha:GR n a)(hb:GR n b)(e:a.ar=b.ar):GR n (ovR n a b):=GR.union hb (ha.filter _) (by show b.ar=a.ar;omega)
theorem GR.iden{n:Int}(h0:0<=n):GR n (idR n):=by
 have e2:powI n 2=n*n:=by
  have:=uy (n:=n) (i:=1) (j:=1) (by omega) (by omega) (by omega);rw[vV]at this;exact this
 refine⟨by show (1:Int)<=2;omega,by show (2:Int)<=3;omega,fun t ht=>?_,?_⟩
 .obtain ⟨k,hk,rfl⟩:=qs.1 ht
  rw[zI]at hk;show _/\_<powI n 2;rw[e2];exact Yv (by omega) (by omega) (by omega) (by omega)
 .show ((qq n.toNat).map fun x:Nat=>(x:Int)*n+x).Pairwise (·<·)
  rw[List.pairwise_map];refine List.Pairwise.imp (fun {x y} h=>?_) List.pairwise_lt_range;have:=Int.mul_le_mul_of_nonneg_right (a:=(x:Int)) (b:=y) (c:=n) (by omega) h0;omega
theorem GR.nil{n ar:Int}(h1:1<=ar)(h3:ar<=3):GR n ⟨ar,[]⟩:=⟨h1,h3,fun t ht=>absurd ht zr,qdI⟩
theorem GR.one{n a:Int}(h0:0<=a)(h1:a<n):GR n ⟨1,[a]⟩:=
 ⟨by show (1:Int)<=1;omega,by show (1:Int)<=3;omega,fun t ht=>by rw[qW]at ht;subst ht;show _/\_<powI n 1;rw[vV];exact⟨h0,h1⟩,List.pairwise_singleton _ _⟩
theorem GR.run{n a:Int}(m:Nat)(h0:0<=a)(h1:a+m<=n):GR n ⟨1,(qq m).map fun k:Nat=>a+k⟩:=by
 refine⟨by show (1:Int)<=1;omega,by show (1:Int)<=3;omega,fun t ht=>?_,?_⟩
 .obtain ⟨k,hk,rfl⟩:=qs.1 ht
  rw[zI]at hk;show _/\_<powI n 1;rw[vV];omega
 .show ((qq m).map fun k:Nat=>a+k).Pairwise (·<·)
  rw[List.pairwise_map];exact List.Pairwise.imp (fun {x y} h=>by omega) List.pairwise_lt_range
theorem GR.steps{n a:Int}(hn:0<=n)(m:Nat)(h0:0<=a)(h1:a+m+1<=n):GR n ⟨2,(qq m).map fun k:Nat=>(a+k)*n+(a+k+1)⟩:=by
 have e2:powI n 2=n*n:=by
  have:=uy (n:=n) (i:=1) (j:=1) (by omega) (by omega) (by omega);rw[vV]at this;exact this
 refine⟨by show (1:Int)<=2;omega,by show (2:Int)<=3;omega,fun t ht=>?_,?_⟩
 .obtain ⟨k,hk,rfl⟩:=qs.1 ht
  rw[zI]at hk;show _/\_<powI n 2;rw[e2];exact Yv (by omega) (by omega) (by omega) (by omega)
 .show ((qq m).map fun k:Nat=>(a+k)*n+(a+k+1)).Pairwise (·<·)
  rw[List.pairwise_map];refine List.Pairwise.imp (fun {x y} h=>?_) List.pairwise_lt_range;have:=Int.mul_le_mul_of_nonneg_right (a:=a+(x:Int)) (b:=a+y) (c:=n) (by omega) hn;omega
end E2
namespace ET
open E1 E2 E3 EL EO EP EQ ER
theorem U3(n:Int)(h0:0<=n)(h1:n<=20)(k:Int)(hk:0<=k)(h3:k<=3):qi qd 77 [aI n,aI k] (aI (powI n k)):=by
 have:=qdL n h0 h1 k.toNat (by omega);rw[show ((k.toNat:Nat):Int)=k by omega,<-ZA hk h3]at this;exact this
def RelM(mu:Mu)(ar:Int)(l:List Int):Prop:=∃ av,mu[0]?=some (.arr [aI 0,.lst true []])/\mu[1]?=some (.arr [aI ar,av])/\OwnI mu av l/\qt av≠some 0/\qt av≠some 1
theorem RelM.step{mu mu':Mu}{ar:Int}{av av':AV}{l:List Int}(h0:mu[0]?=some (.arr [aI 0,.lst true []]))(h1:mu[1]?=some (.arr [aI ar,av]))(n0:qt av≠some 0)(n1:qt av≠some 1)(ho:OwnI mu' av' l)
  (hs:∀ i,i<mu.length->qt av≠some i->mu'[i]?=mu[i]?) (hl:mu.length<=mu'.length) (hb:∀ b,qt av'=some b->b=mu.length):mu'[1]?=some (.arr [aI ar,av])/\RelM (mu'.set 1 (.arr [aI ar,av'])) ar l:=by
 have l1:1<mu.length:=(qk.1 h1).1;have m0:qt av'≠some 0:=fun e=>by have:=hb 0 e;omega
 have m1:qt av'≠some 1:=fun e=>by have:=hb 1 e;omega
 refine⟨by rw[hs 1 l1 n1];exact h1,av',by rw[qK (by omega),hs 0 (by omega) n0];exact h0,by rw[zb (by omega)],ho.same fun b hb'=>?_,m0,m1⟩;rw[qK (fun e=>m1 (by rw[e];exact hb'))]
theorem qd7(m:Int)(x y:List Int)(s:Int):prL m (x++[s]) y=prL m x y++y.map fun t=>s*m+t:=by simp[prL]
theorem U4{a m x y:Int}(h0:0<=a)(h1:a<=x)(h2:0<=m)(h3:m<=y)(hx:0<=x):0<=a*m/\a*m<=x*y:=⟨Int.mul_nonneg h0 h2,jp h1 h3 h2 hx⟩
theorem wJ{mu:Mu}{r:Rl}{e:Int}{x:AV}(h:Rd mu x (eRel r)):Rd mu (.tup [x,aI e]) (.tup [eRel r,aI e]):=by
 refine .tup _ _ rfl fun k u v hu hv=>?_
 match k with
 | 0=>simp at hu hv;subst hu;subst hv;exact h
 | 1=>simp at hu hv;subst hu;subst hv;exact .hf _ (HF.sc _)
 |k+2=>simp at hu
theorem Qq{mu:Mu}{ar:Int}:Rd mu (.agg [aI ar,.lst true []]) (eRel ⟨ar,[]⟩):=OwnV.rdRel (.inl ⟨rfl,rfl⟩)
theorem qd8(m:Int)(x y:List Int):(prL m x y).length=x.length*y.length:=by
 induction x with
 |nil=>simp[prL]
 |cons s x ih=>simp only[prL,Z0,zt,yM,z6]at ih⊢;rw[ih,Nat.add_mul];omega
theorem JV(n:Int)(h0:0<=n)(h12:n<=12)(a b:Rl)(ha:GR n a)(hb:GR n b):qi qd 33 [aI n,eRel a,eRel b] (match jz n a b with | .ok r => .tup [eRel r,aI 0] | .error e => .tup [eRel ⟨0,[]⟩,aI e]):=by
 refine qSQ call33 func33 rfl {} ?_;have a1:=ha.ar1;have a3:=ha.ar3;have b1:=hb.ar1;have b3:=hb.ar3;have la:=ha.len h0 (by omega);have lb:=hb.len h0 (by omega);have w0:qj.wrap (a.ar+b.ar)=a.ar+b.ar:=qg (by omega) (by omega);unfold jz;by_cases hc:a.ar+b.ar<=3
 .have hn:¬(3:Int)<a.ar+b.ar:=by omega
  obtain⟨p0,p1⟩:=u3 (k:=b.ar) h0 (by omega:n<=20);rw[if_pos hc];simp[go_sem,w0,hn];refine qb.pure (U3 n h0 (by omega) b.ar (by omega) b3) (.cons (.hf (HF.sc _)) (.cons (.hf (HF.sc _)) .nil)) ?_;simp[go_sem];generalize hM:powI n b.ar=M at *
  have hlen:∀ i j,i<a.ts.length->j<=b.ts.length->(prL M (a.ts.take i) b.ts++(b.ts.take j).map fun t=>a.ts.getD i 0*M+t).length<=64000000:=fun i j hi hj=>by
   rw[zt,qd8,yM,jZ,jZ];have:(min i a.ts.length)*b.ts.length<=7999*8000:=Nat.mul_le_mul (by omega) lb;omega
  refine ql.upK a.ts.length (fun i st=>st.tm 5 = .ip (cRel b)/\st.tm 6 = .ptr 0 0/\st.tm 8 = .ptr 1 0/\st.tm 9=aI M/\st.tm 32=lI a.ts/\st.tm 33=aI a.ts.length/\st.tm 34=aI i/\RelM st.mu (a.ar+b.ar) (prL M (a.ts.take i) b.ts)) ?_ ?_
  .refine ⟨by simp[go_sem],by simp[go_sem],by simp[go_sem],by simp[go_sem],by simp[go_sem],by simp[go_sem],by simp[go_sem],.lst true [],by simp[go_sem],by simp[go_sem],.inl ⟨rfl,by simp[prL]⟩,by simp[qt],by simp[qt]⟩
  rintro i st hi ⟨e5,e6,e8,e9,e32,e33,e34,hr⟩;by_cases hlt:i<a.ts.length
  .have w1:qj.wrap ((i:Int)+1)=(i:Int)+1:=qg (by omega) (by omega)
   obtain⟨v0,v1⟩:=ha.val _ (qu hlt);obtain⟨q0,q1⟩:=u3 (k:=a.ar) h0 (by omega:n<=20);obtain⟨m0,m1⟩:=U4 (x:=8000) (y:=8000) v0 (by omega) p0 p1 (by omega);have hgd:a.ts.getD i 0=a.ts[i]:=by rw[List.getD_eq_getElem?_getD,qv hlt];rfl
   have hlen:=hlen i;rw[hgd]at hlen;simp[go_sem,e5,e6,e8,e9,e32,e33,e34,hlt];refine ql.upK b.ts.length (fun j st=>st.tm 5 = .ip (cRel b)/\st.tm 6 = .ptr 0 0/\st.tm 8 = .ptr 1 0/\st.tm 9=aI M/\st.tm 11=aI a.ts[i]/\st.tm 32=lI a.ts/\st.tm 33=aI a.ts.length/\st.tm 34=aI i/\st.tm 39=lI b.ts/\st.tm 40=aI b.ts.length/\st.tm 41=aI j/\RelM st.mu (a.ar+b.ar) (prL M (a.ts.take i) b.ts++(b.ts.take j).map fun t=>a.ts[i] * M+t)) ?_ ?_
   .refine ⟨by simp[go_sem,e5],by simp[go_sem,e6],by simp[go_sem,e8],by simp[go_sem,e9],by simp[go_sem],by simp[go_sem,e32],by simp[go_sem,e33],by simp[go_sem,e34],by simp[go_sem],by simp[go_sem],by simp[go_sem],by simpa[go_sem] using hr⟩
   rintro j st hj ⟨f5,f6,f8,f9,f11,f32,f33,f34,f39,f40,f41,av,g0,g1,ho,n0,n1⟩;by_cases hlt2:j<b.ts.length
   .have w2:qj.wrap ((j:Int)+1)=(j:Int)+1:=qg (by omega) (by omega)
    obtain⟨u0,u1⟩:=hb.val _ (qu hlt2);rw[hM]at u1;have w3:qj.wrap (a.ts[i] * M)=a.ts[i] * M:=qg (by omega) (by omega);have w4:qj.wrap (a.ts[i] * M+b.ts[j])=a.ts[i] * M+b.ts[j]:=qg (by omega) (by omega);simp[go_sem,f5,f6,f8,f9,f11,f32,f33,f34,f39,f40,f41,hlt2,g1,w3,w4];refine qF.ownV1 (e:=3) (bt:=8) (z:=0) (by simp[go_sem]) (by simp[go_sem]) (by simp[go_sem]) (by omega) ho.v (by have:=hlen j hlt (by omega);omega) ?_;intro av' mu' ho' hs' hl' hb';obtain⟨k1,k2⟩:=RelM.step g0 g1 n0 n1 ho' hs' hl' hb';simp[go_sem,f5,f6,f8,f9,f11,f32,f33,f34,f39,f40,f41,k1,ho'.v.one,ho'.v.cells,w2];refine⟨hlt2,Keep.mk' ⟨by simp[go_sem,f5],by simp[go_sem,f6],by simp[go_sem,f8],by simp[go_sem,f9],by simp[go_sem,f11],by simp[go_sem,f32],by simp[go_sem,f33],by simp[go_sem,f34],by simp[go_sem,f39],by simp[go_sem,f40],by simp[go_sem],?_⟩⟩;rw[yj hlt2,zm,<-zB];exact k2
   .have hge:j=b.ts.length:=by omega
    subst hge;simp[go_sem,f5,f6,f8,f9,f11,f32,f33,f34,f39,f40,f41,w1];refine⟨hlt,Keep.mk' ⟨by simp[go_sem,f5],by simp[go_sem,f6],by simp[go_sem,f8],by simp[go_sem,f9],by simp[go_sem,f32],by simp[go_sem,f33],by simp[go_sem],?_⟩⟩;rw[yj hlt,qd7];rw[zw]at ho;exact⟨av,g0,g1,ho,n0,n1⟩
  .have hge:i=a.ts.length:=by omega
   subst hge;obtain⟨av,g0,g1,ho,n0,n1⟩:=hr;rw[zw]at ho;have hset:∀ c,(st.mu.set 0 c)[0]?=some c:=fun c=>zb (qk.1 g0).1
   simp[go_sem,e5,e6,e8,e9,e32,e33,e34,g0,g1,hset,ho.v.one,ho.v.cells];refine wJ (r:=prR n a b) ?_;unfold prR;rw[hM];refine OwnV.rdRel (ho.v.same fun b hb=>?_);rw[qK (fun e=>n0 (by rw[e];exact hb))]
 .have hn:(3:Int)<a.ar+b.ar:=by omega
  rw[if_neg hc];simp[go_sem,w0,hn];exact wJ Qq
theorem U5(n:Int)(h0:0<=n)(h12:n<=12)(a:Rl)(ha:GR n a)(h2:a.ar=2):qi qd 35 [aI n,eRel a] (eRel (trR n a)):=by
 refine qSQ call35 func35 rfl {} ?_;have hl:=ha.len h0 (by omega);have e2:powI n 2=n*n:=by
  have:=uy (n:=n) (i:=1) (j:=1) (by omega) (by omega) (by omega);rw[vV]at this;exact this
 have hnn:n*n<=12*12:=jp h12 h12 h0 (by omega);simp[go_sem,show (a.ts.length:Int)<=4294967296 by omega];refine ql.upK a.ts.length (fun k st=>st.tm 0=aI n/\st.tm 4 = .ptr 0 0/\st.tm 5 = .sl 1 1 0 a.ts.length/\st.tm 13=lI a.ts/\st.tm 14=aI a.ts.length/\st.tm 15=aI k/\st.mu=[.arr [aI 0,.lst true []],.arr ((((a.ts.take k).map fun t=>t % n*n+t / n)++qX (a.ts.length-k) 0).map aI)]) ?_ ?_
 .simp [go_sem]
 rintro k st hk ⟨e0,e4,e5,e13,e14,e15,hm⟩;by_cases hlt:k<a.ts.length
 .have w1:qj.wrap ((k:Int)+1)=(k:Int)+1:=qg (by omega) (by omega)
  obtain⟨v0,v1⟩:=ha.val _ (qu hlt);rw[h2,e2]at v1;have hn:0<n:=by
   rcases Int.lt_or_eq_of_le h0 with h|h
   .exact h
   .exfalso;rw[<-h,Int.mul_zero]at v1;omega
  have hq0:0<=a.ts[k] / n:=Int.ediv_nonneg v0 h0;have hq1:a.ts[k] / n<n:=Int.ediv_lt_of_lt_mul hn v1;have hr0:0<=a.ts[k] % n:=Int.emod_nonneg _ (by omega);have hr1:a.ts[k] % n<n:=Int.emod_lt_of_pos _ hn;obtain⟨m0,m1⟩:=U4 (x:=12) (y:=12) hr0 (by omega) h0 h12 (by omega);have d1:a.ts[k].tdiv n=a.ts[k] / n:=Int.tdiv_eq_ediv_of_nonneg v0;have d2:a.ts[k].tmod n=a.ts[k] % n:=wr v0;have w2:qj.wrap (a.ts[k] / n)=a.ts[k] / n:=qg (by omega) (by omega);have w3:qj.wrap (a.ts[k] % n*n)=a.ts[k] % n*n:=qg (by omega) (by omega);have w4:qj.wrap (a.ts[k] % n*n+a.ts[k] / n)=a.ts[k] % n*n+a.ts[k] / n:=qg (by omega) (by omega);have hn0:¬n=0:=by omega
  have hrep:qX (a.ts.length-k) (0:Int)=0 :: qX (a.ts.length-(k+1)) 0:=by
   rw[<-List.replicate_succ];congr 1;omega
  have hset:∀ v:Int,((((a.ts.take k).map fun t=>t % n*n+t / n)++qX (a.ts.length-k) 0).map aI).set k (aI v)=(((a.ts.take k).map fun t=>t % n*n+t / n)++v :: qX (a.ts.length-(k+1)) 0).map aI:=fun v=>by
   rw[<-List.map_set,hrep,List.set_append_right _ _ (by simp;omega)];simp[Nat.min_eq_left hk]
  have hlen:((((a.ts.take k).map fun t=>t % n*n+t / n)++qX (a.ts.length-k) 0).map aI).length=a.ts.length:=by simp;omega
  generalize hC:(((a.ts.take k).map fun t=>t % n*n+t / n)++qX (a.ts.length-k) 0).map aI=C at *
  simp[go_sem,e0,e4,e5,e13,e14,e15,hm,hlt];refine qe.intro (by kernel_rfl) ?_;simp[go_sem,e0,e4,e5,e13,e14,e15,hm,hlt,hn0,d1,d2,w2,w3,w4,hset,hlen,show k+1<=a.ts.length by omega,w1];refine Keep.mk' ⟨by simp[go_sem,e0],by simp[go_sem,e4],by simp[go_sem,e5],by simp[go_sem,e13],by simp[go_sem,e14],by simp[go_sem],?_⟩;simp only[qL];have e:(((a.ts.take (k+1)).map fun t=>t % n*n+t / n)++qX (a.ts.length-(k+1)) 0).map aI=(((a.ts.take k).map fun t=>t % n*n+t / n)++(a.ts[k] % n*n+a.ts[k] / n) :: qX (a.ts.length-(k+1)) 0).map aI:=by
   rw[yj hlt,zm (l₂:=[a.ts[k]]),zB];rfl
  rw[e];simp
 .have hge:k=a.ts.length:=by omega
  subst hge;rw[zw,Nat.sub_self,List.replicate_zero,zx]at hm;generalize hL:a.ts.map (fun t=>t % n*n+t / n)=L at *
  have hLl:L.length=a.ts.length:=by rw[<-hL];simp
  simp only[e0,e4,e5,e13,e14,e15,hm,go_sem];have hs:=UZ [.arr [aI 0,.lst true []],.arr (L.map aI)] 2 (.sl 1 1 0 a.ts.length) L (by omega) (.inr ⟨1,by rw[hLl],rfl⟩);simp[go_sem,e0,e4,e5,e13,e14,e15,hm];refine qb.eff0 hs ?_ ?_
  .rintro r m ⟨x,h,ho,hs2,hl2,hb2⟩
   cases h;have g0:=hs2 0 (by simp) (by simp[qt]);have hset:∀ c,(m.set 0 c)[0]?=some c:=fun c=>zb (qk.1 g0).1
   simp at g0;have hx:qt x≠some 0:=fun h=>by have:=hb2 _ h;simp[qt]at this
   simp[go_sem,e0,e4,e5,g0,hset,ho.one,ho.cells];unfold trR;rw[hL];refine OwnV.rdRel (ho.same fun b hb=>?_);rw[qK (fun e=>hx (by rw[e];exact hb))]
  .rintro r m ⟨x,h,_⟩
   cases h
end ET
namespace EW
open EO EP EQ ER ET
inductive TagM (p:Mu->Prop):Type where
 |mk:TagM p
def jP(p:Mu->Prop)(_:TagM p)(mu:Mu):Prop:=p mu
theorem jP.intro{p:Mu->Prop}{mu:Mu}(h:p mu):jP p .mk mu:=h
theorem j8.keep{P:Program}{pl:Pol}{gf:FuncId}{caps:List AV}{ps:Array Tmp}{asg body:Code}{Q:qZ->St->Prop}{st:St}{rows:List (List AV)}(hit:yY P gf caps rows)(I:Nat->Mu->Prop)(Ix:qZ->Mu->Prop)
  (h0:I 0 (st.mu++[.dead])) (hS:∀ k mu,I k mu->I k (mu++[.dead])) (hX:∀ e mu,Ix e mu->Ix e (mu++[.dead]))
  (hr:∀ k x mu,rows[k]?=some x->I k mu->x.length=ps.size/\awp P pl asg (asQ (fun st=>awp P pl body (rndQ (fun k=>jP (I k) .mk) (fun e=>jP (Ix e) .mk) k) st)) ⟨vP st.tm ps.toList x,mu⟩)
  (he:∀ mu,I rows.length mu->Q .normal ⟨st.tm,mu⟩) (hx:∀ e mu,Ix e mu->Q e ⟨st.tm,mu⟩):j8 P pl (.fn (.func gf) [] caps) ps asg body Q st:=
 j8.intro hit I Ix h0 hS hX hr he hx
abbrev tupCl(sc:Sc)(p:Int)(l:List Int):AV := .fn (.func 233) [] [.ip [lI l],.ip [aI p],.ip [lI sc.atoms,aI sc.steps]]
theorem kQ(sc:Sc)(p:Int)(l:List Int):qi qd 203 [eSc sc,aI p,lI l] (tupCl sc p l):=by
 refine qSQ call203 func203 rfl {} ?_;simp[go_sem];refine .hf _ (HF.fn (fun c hc=>by simp at hc) (fun c hc=>?_));simp at hc;rcases hc with rfl|rfl|rfl
 .exact yI (zM _)
 .exact yI (HF.sc _)
 .exact HF.ip fun c hc=>by simp at hc;rcases hc with rfl|rfl<;>first|exact zM _|exact HF.sc _
def tupR(sc:Sc):List Int->Int->List Int
 | [],p=>[p]
 |s :: l,p=>(qq (gI sc.atoms s.toNat).toNat).flatMap fun k:Nat=>tupR sc l (p*sumI sc.atoms+(sumI (sc.atoms.take s.toNat)+k))
@[go_sem] theorem yl_cells(i:Nat):(AV.yl i).cells=[.yl i]:=rfl
@[go_sem] theorem yl_one(i:Nat):(AV.yl i).one=true:=rfl
theorem qd9(sc:Sc)(p:Int):yY qd 233 [.ip [lI []],.ip [aI p],.ip [lI sc.atoms,aI sc.steps]] [[aI p]]:=by
 refine yY.of call233 fun i I Ix hS hX hY mu h0=>?_
 refine qSW call233 func233 rfl {} ?_;simp[go_sem];refine qb.yield (hY 0 [aI p] mu rfl h0) ?_;rintro b mu' (⟨rfl,hI'⟩|⟨rfl,hx'⟩)
 .simp [go_sem]
  exact .inl hI'
 .simp [go_sem]
  exact .inr hx'
theorem qeA{i r:Nat}(h:i<r):∃ l,qq r=qq i++i :: l:=by
 refine⟨(qq r).drop (i+1),?_⟩;apply jj;intro j;by_cases hj:j<i
 .rw [qp (by simpa using hj),ue hj,ue (by omega)]
 .rw [qV (by simp;omega),List.length_range]
  by_cases e:j=i
  .subst e;simp[h]
  .obtain ⟨d,hd⟩:∃ d,j-i=d+1:=⟨j-i-1,by omega⟩
   rw[hd,List.getElem?_cons_succ,yA];congr 1;omega
theorem qeB{α:Type}(f:Nat->List α){N k j:Nat}{x:α}(hk:k<N)(h:(f k)[j]?=some x):((qq N).flatMap f)[((qq k).flatMap f).length+j]?=some x:=by
 obtain⟨l,e⟩:=qeA hk;rw[e,List.flatMap_append,qV (by omega),Nat.add_sub_cancel_left,Z0,qp (qk.1 h).1];exact h
theorem Yw{α:Type}(f:Nat->List α)(k:Nat):(qq (k+1)).flatMap f=(qq k).flatMap f++f k:=by
 rw[List.range_succ,List.flatMap_append];simp
theorem qeC(sc:Sc)(g:GSc sc)(hA:∀ a,a∈sc.atoms->0<=a)(s:Nat)(hs:s<sc.atoms.length)(l:List Int)(hl:l.length<=10)(p:Int)(hp:0<=p/\p<=1000000)
  (ih:∀ k:Nat,k<(gI sc.atoms s).toNat->yY qd 233 [.ip [lI l],.ip [aI (p*sumI sc.atoms+(sumI (sc.atoms.take s)+k))],.ip [lI sc.atoms,aI sc.steps]] ((tupR sc l (p*sumI sc.atoms+(sumI (sc.atoms.take s)+k))).map fun t=>[aI t])) :
  yY qd 233 [.ip [lI (s :: l)],.ip [aI p],.ip [lI sc.atoms,aI sc.steps]] ((tupR sc (s :: l) p).map fun t=>[aI t]):=by
 refine yY.of call233 fun i I Ix hS hX hY mu h0=>?_
 refine qSW call233 func233 rfl {} ?_;have hz:¬(l.length:Int)+1=0:=by omega
 have hfs:=qdT sc g s (by omega);have hfw:WKs [eSc sc,aI s] [eSc sc,aI s] := .cons (.hf (yZ sc)) (.cons (.hf (HF.sc _)) .nil);obtain⟨s0,s1⟩:=g.sum s;obtain⟨t0,t1⟩:=g.sum sc.atoms.length;rw[zw]at t0 t1;have hat:gI sc.atoms s=sc.atoms[s]:=Qd hs;have ha0:=hA _ (qu hs);obtain⟨u0,u1⟩:=g.sum (s+1);rw[Qe _ _ hs]at u1;have hau:=UT sc g;have haw:WKs [eSc sc] [eSc sc] := .cons (.hf (yZ sc)) .nil;have hrows:tupR sc (s :: l) p=(qq (sc.atoms[s]).toNat).flatMap fun k:Nat=>tupR sc l (p*sumI sc.atoms+(sumI (sc.atoms.take s)+k)):=by
  rw[tupR,show (s:Int).toNat=s by omega,hat]
 rw[hat]at ih;obtain⟨m0,m1⟩:0<=p*sumI sc.atoms/\p*sumI sc.atoms<=1000000*20:=⟨Int.mul_nonneg hp.1 t0,jp hp.2 t1 t0 (by omega)⟩;have w2:qj.wrap (p*sumI sc.atoms)=p*sumI sc.atoms:=qg (by omega) (by omega);have w3:qj.wrap (sumI (sc.atoms.take s)+sc.atoms[s])=sumI (sc.atoms.take s)+sc.atoms[s]:=qg (by omega) (by omega);generalize hF:(fun k:Nat=>tupR sc l (p*sumI sc.atoms+(sumI (sc.atoms.take s)+k)))=F at *
 have hFk:∀ k:Nat,tupR sc l (p*sumI sc.atoms+(sumI (sc.atoms.take s)+k))=F k:=fun k=>by rw[<-hF]
 simp only[hFk]at ih;simp[go_sem,hz];refine qe.intro (by kernel_rfl) ?_;simp[go_sem];refine qb.pure hfs hfw ?_;generalize hn:sumI sc.atoms=n at *
 generalize hf:sumI (sc.atoms.take s)=f at *
 simp[go_sem];refine ql.keep (fun m st=>∃ k,m=(sc.atoms[s]).toNat-k/\k<=(sc.atoms[s]).toNat/\st.tm 1 = .ip [lI (s :: l)]/\st.tm 2 = .ip [aI p]/\st.tm 3 = .ip [lI sc.atoms,aI sc.steps]/\st.tm 4 = .ip [.yl i]/\st.tm 5=aI f/\st.tm 6=aI (f+(k:Nat))/\I ((qq k).flatMap F).length st.mu) (sc.atoms[s]).toNat ?_ ?_
 .exact ⟨0,by omega,by omega,by simp[go_sem],by simp[go_sem],by simp[go_sem],by simp[go_sem],by simp[go_sem],by simp[go_sem],by simpa[go_sem] using h0⟩
 rintro m st ⟨k,rfl,hk,e1,e2,e3,e4,e5,e6,hI⟩;simp[go_sem];refine qe.intro (by kernel_rfl) ?_;by_cases hlt:k<(sc.atoms[s]).toNat
 .have hb:f+(k:Int)<f+sc.atoms[s]:=by omega
  have w4:qj.wrap (p*n+(f+k))=p*n+(f+k):=qg (by omega) (by omega);have w5:qj.wrap (f+(k:Int)+1)=f+((k+1:Nat):Int):=by rw[qg (by omega) (by omega)];omega
  have hslw:WKs [eSc sc,aI (p*n+(f+k)),.lst false (l.map rI)] [eSc sc,aI (p*n+(f+k)),lI l] := .cons (.hf (yZ sc)) (.cons (.hf (HF.sc _)) (.cons (.hf (zM l)) .nil));have htu:=kQ sc (p*n+(f+k)) l;simp[go_sem,e1,e2,e3,e4,e5,e6,hs,w3,hb];refine qe.intro (by kernel_rfl) ?_;simp[go_sem,e1,e2,e3,e4,e5,e6];refine qb.pure hau haw ?_;have h1l:(1:Int)<=l.length+1:=by omega
  have htk:List.take l.length (l.map rI)=l.map rI:=zU (by simp);simp[go_sem,e1,e2,e3,e4,e5,e6,w2,w4,h1l,htk];refine⟨⟨_,_,⟨rfl,rfl⟩,(uT (s :: l)).ok⟩,?_⟩;refine qb.pure htu hslw ?_;simp[go_sem,e1,e2,e3,e4,e5,e6];refine j8.keep (ih k hlt) (fun j M=>I (((qq k).flatMap F).length+j) M) (fun e M=>e = .ret/\Ix M) ?_ ?_ ?_ ?_ ?_ ?_
  .simpa [go_sem] using hS _ _ hI
  .intro j M h;exact hS _ _ h
  .rintro e M ⟨h1,h2⟩;exact⟨h1,hX _ h2⟩
  .rintro j x M hj hIj
   rw[zk,vo]at hj;obtain⟨t,ht,rfl⟩:=hj;have hget:(((qq (sc.atoms[s]).toNat).flatMap F).map fun t=>[aI t])[((qq k).flatMap F).length+j]?=some [aI t]:=by
    rw[zk,qeB F hlt ht];rfl
   rw[<-hrows]at hget;refine⟨rfl,?_⟩;simp[go_sem,e1,e2,e3,e4,e5,e6];refine qb.yield (hY _ _ _ hget hIj) ?_;rintro b mu' (⟨rfl,hI'⟩|⟨rfl,hx'⟩)
   .simp [go_sem]
    exact jP.intro hI'
   .simp [go_sem]
    exact jP.intro ⟨rfl,hx'⟩
  .rintro M hIn
   simp[go_sem,e1,e2,e3,e4,e5,e6,w5];refine Keep.loop ((sc.atoms[s]).toNat-(k+1)) (by omega) ⟨k+1,rfl,by omega,by simp[go_sem,e1],by simp[go_sem,e2],by simp[go_sem,e3],by simp[go_sem,e4],by simp[go_sem,e5],by simp[go_sem],?_⟩;rw[Yw,zt];simpa[go_sem] using hIn
  .rintro e M ⟨rfl,h2⟩
   simp[go_sem];exact .inr h2
 .have hge:k=(sc.atoms[s]).toNat:=by omega
  have hb:¬f+(k:Int)<f+sc.atoms[s]:=by omega
  simp[go_sem,e1,e2,e3,e4,e5,e6,hs,w3,hb];rw[hrows,<-hge];exact .inl hI
def bdT:Nat->Int
 | 0=>1000000000
 | 1=>1000000
 | 2=>40000
 |_=>1000
theorem kR(d:Nat)(hd:d<3){p q n:Int}(h0:0<=p)(h1:p<=bdT (d+1))(n0:0<=n)(n1:n<=20)(q0:0<=q)(q1:q<=20):0<=p*n+q/\p*n+q<=bdT d/\p<=1000000:=by
 have a:0<=p*n:=Int.mul_nonneg h0 n0;have b:p*n<=bdT (d+1)*20:=jp h1 n1 n0 (by omega)
 match d,hd with
 | 0,_=>simp only[bdT]at *;omega
 | 1,_=>simp only[bdT]at *;omega
 | 2,_=>simp only[bdT]at *;omega
def OkS(sc:Sc)(l:List Int):Prop:=∀ s,s∈l->0<=s/\s<sc.atoms.length
theorem kS(sc:Sc)(g:GSc sc)(hA:∀ a,a∈sc.atoms->0<=a):∀(l:List Int),OkS sc l->l.length<=3->∀ p:Int,0<=p->p<=bdT l.length->yY qd 233 [.ip [lI l],.ip [aI p],.ip [lI sc.atoms,aI sc.steps]] ((tupR sc l p).map fun t=>[aI t])
 | [],_,_,p,_,_=>qd9 sc p
 |s :: l,hs,hl,p,h0,h1=>by
  obtain⟨n,rfl⟩:∃ n:Nat,s=n:=⟨s.toNat,by have:=(hs s (by simp)).1;omega⟩;have hn:n<sc.atoms.length:=by have:=(hs n (by simp)).2;omega
  simp only[z6]at hl h1;obtain⟨t0,t1⟩:=g.sum sc.atoms.length;rw[zw]at t0 t1;refine qeC sc g hA n hn l (by omega) p ⟨h0,(kR l.length (by omega) h0 h1 t0 t1 (q:=0) (by omega) (by omega)).2.2⟩ fun k hk=>?_
  obtain⟨u0,u1⟩:=g.sum (n+1);rw[Qe _ _ hn]at u1;rw[Qd hn]at hk;obtain⟨s0,s1⟩:=g.sum n;obtain⟨b0,b1,_⟩:=kR l.length (by omega) h0 h1 t0 t1 (q:=sumI (sc.atoms.take n)+k) (by omega) (by omega);exact kS sc g hA l (fun x hx=>hs x (by simp[hx])) (by omega) _ b0 b1
theorem U6(sc:Sc)(g:GSc sc)(hA:∀ a,a∈sc.atoms->0<=a):∀(l:List Int),OkS sc l->∀ p,(tupR sc l p).length<=20 ^ l.length
 | [],_,p=>by simp[tupR]
 |s :: l,hs,p=>by
  obtain⟨n,rfl⟩:∃ n:Nat,s=n:=⟨s.toNat,by have:=(hs s (by simp)).1;omega⟩;have hn:n<sc.atoms.length:=by have:=(hs n (by simp)).2;omega
  obtain⟨u0,u1⟩:=g.sum (n+1);obtain⟨s0,s1⟩:=g.sum n;rw[Qe _ _ hn]at u1;have ih:=U6 sc g hA l (fun x hx=>hs x (by simp[hx]));rw[tupR,show (n:Int).toNat=n by omega,Qd hn];have key:∀ m:Nat,((qq m).flatMap fun k:Nat=>tupR sc l (p*sumI sc.atoms+(sumI (sc.atoms.take n)+k))).length<=m*20 ^ l.length:=by
   intro m;induction m with
   |zero=>simp
   |succ m ihm =>
    rw[Yw,zt,Nat.succ_mul];have:=ih (p*sumI sc.atoms+(sumI (sc.atoms.take n)+m));omega
  refine q7 (key _) ?_;rw[z6,Nat.pow_succ,Nat.mul_comm];exact Nat.mul_le_mul_left _ (by omega)
theorem U7(n a b:Int):qi qd 202 [aI n,aI a,aI b] (aB (decide (a<=n)&&decide (n<=b))):=by
 refine qSQ call202 func202 rfl {} ?_;by_cases h1:a<=n
 .simp [go_sem,h1]
  exact .hf _ (HF.sc _)
 .simp [go_sem,h1]
  exact .hf _ (HF.sc _)
theorem wk3I(a b c:Int):WKs [aI a,aI b,aI c] [aI a,aI b,aI c] := .cons (.hf (HF.sc _)) (.cons (.hf (HF.sc _)) (.cons (.hf (HF.sc _)) .nil))
theorem fullU(sc:Sc)(g:GSc sc)(hA:∀ a,a∈sc.atoms->0<=a)(l:List Int)(hs:OkS sc l)(h1:1<=l.length)(h3:l.length<=3):qi qd 166 [eSc sc,lI l] (eRel ⟨l.length,tupR sc l 0⟩):=by
 refine qSQ call166 func166 rfl {} ?_;have b1:(1:Int)<=l.length:=by omega
 have b3:(l.length:Int)<=3:=by omega
 have hg:=g.1;have w1:=U7 l.length 1 3;rw[decide_eq_true b1,decide_eq_true b3]at w1;simp[go_sem];refine qb.pure w1 (wk3I _ _ _) ?_;simp[go_sem];refine ql.upK l.length (fun k st=>st.tm 1=lI l/\st.tm 2 = .ip [lI sc.atoms,aI sc.steps]/\st.tm 4 = .ptr 0 0/\st.tm 14=lI l/\st.tm 15=aI l.length/\st.tm 16=aI k/\st.mu=[.arr [aI 0,.lst true []]]) ?_ ?_
 .simp [go_sem]
 rintro k st hk ⟨e1,e2,e4,e14,e15,e16,hm⟩;by_cases hlt:k<l.length
 .have wk:qj.wrap ((k:Int)+1)=(k:Int)+1:=qg (by omega) (by omega)
  have wl:qj.wrap ((sc.atoms.length:Int)-1)=(sc.atoms.length:Int)-1:=qg (by omega) (by omega);obtain⟨q0,q1⟩:=hs _ (qu hlt);have w2:=U7 l[k] 0 ((sc.atoms.length:Int)-1);rw[decide_eq_true q0,decide_eq_true (by omega:l[k]<=(sc.atoms.length:Int)-1)]at w2;simp[go_sem,e1,e2,e4,e14,e15,e16,hm,hlt,wl];refine qb.pure w2 (wk3I _ _ _) ?_;simp[go_sem,e1,e2,e4,e14,e15,e16,hm,hlt,wk];exact Keep.mk' ⟨by simp[go_sem,e1],by simp[go_sem,e2],by simp[go_sem,e4],by simp[go_sem,e14],by simp[go_sem,e15],by simp[go_sem],by simp[go_sem]⟩
 .have hge:k=l.length:=by omega
  subst hge;have htl:=U6 sc g hA l hs 0;have hp:20 ^ l.length<=8000:=by
   have:l.length=1\/l.length=2\/l.length=3:=by omega
   rcases this with h|h|h<;>rw[h]<;>omega
  have hb0:(0:Int)<=bdT l.length:=by
   have:l.length=1\/l.length=2\/l.length=3:=by omega
   rcases this with h|h|h<;>rw[h]<;>simp[bdT]
  simp[go_sem,e1,e2,e4,e14,e15,e16,hm];refine qb.pure (kQ sc 0 l) (.cons (.hf (yZ sc)) (.cons (.hf (HF.sc _)) (.cons (.hf (zM l)) .nil))) ?_;simp[go_sem,e1,e2,e4,e14,e15,e16,hm];refine j8.keep (kS sc g hA l hs h3 0 (by omega) hb0) (fun j M=>RelM M l.length ((tupR sc l 0).take j)) (fun _ _=>False) ?_ ?_ ?_ ?_ ?_ ?_
  .exact ⟨.lst true [],by simp[go_sem],by simp[go_sem],.inl ⟨rfl,rfl⟩,by simp[qt],by simp[qt]⟩
  .rintro j M ⟨av,g0,g1,ho,n0,n1⟩
   exact⟨av,by rw[qp (qk.1 g0).1];exact g0,by rw[qp (qk.1 g1).1];exact g1,ho.same fun b hb=>by rw[qp (ho.v.lt hb)],n0,n1⟩
  .intro e M h;exact h
  .rintro j x M hj ⟨av,g0,g1,ho,n0,n1⟩
   rw[zk,vo]at hj;obtain⟨t,ht,rfl⟩:=hj;obtain⟨hjl,hte⟩:=qk.1 ht;refine⟨rfl,?_⟩;simp[go_sem,e1,e2,e4,g1];refine qF.ownV1 (e:=3) (bt:=8) (z:=0) (by simp[go_sem]) (by simp[go_sem]) (by simp[go_sem]) (by omega) ho.v (by simp;omega) ?_;intro av' mu' ho' hs' hl' hb';obtain⟨k1,k2⟩:=RelM.step g0 g1 n0 n1 ho' hs' hl' hb';simp[go_sem,e1,e2,e4,k1,ho'.v.one,ho'.v.cells];refine jP.intro ?_;rw[yj hjl,hte];exact k2
  .rintro M ⟨av,g0,g1,ho,n0,n1⟩
   rw[yM,zw]at ho;have hset:∀ c,(M.set 0 c)[0]?=some c:=fun c=>zb (qk.1 g0).1
   simp[go_sem,e1,e2,e4,g0,g1,hset,ho.v.one,ho.v.cells];refine OwnV.rdRel (ho.v.same fun b hb=>?_);rw[qK (fun e=>n0 (by rw[e];exact hb))]
  .intro e M h;exact h.elim
end EW
namespace EU
open E1 EO EP EQ ER ET
abbrev imG(g:List (Int×List Int)):AV := .im (encK (fun n:Int=>aI n) lI g)
abbrev matC(n m:Int)(a b:Rl):List AV:=[.ip (cRel a),.ip [imG (grpK m b.ts)],.ip [aI n],.ip [aI m]]
theorem qeD(n m:Int)(hm:0<m)(hm2:m<=8000)(a b:Rl)(hb:∀ t,t∈b.ts->0<=t/\t<=1000000)(hl:b.ts.length<=1000000):qi qd 76 [aI n,aI m,eRel a,eRel b] (.fn (.func 141) [] (matC n m a b)):=by
 refine qSQ call76 func76 rfl {} ?_;obtain⟨B,hB⟩:∃ B,B=AV.mp 0:=⟨_,rfl⟩;have hBc:B.cells=[B]:=by rw[hB];rfl
 have hBo:B.one=true:=by rw[hB];rfl
 simp[go_sem];refine ql.upK b.ts.length (fun k st=>st.tm 4 = .ip [aI n]/\st.tm 5 = .ip [aI m]/\st.tm 6 = .ip (cRel a)/\st.tm 9 = .ptr 1 0/\st.tm 14=lI b.ts/\st.tm 15=aI b.ts.length/\st.tm 16=aI k/\st.mu[1]?=some (.arr [B])/\∃ cs,GrpM st.mu 0 (grpK m (b.ts.take k)) cs/\∀ q v,getK q cs=some v->∀ x,qt v=some x->2<=x) ?_ ?_
 .refine ⟨by simp[go_sem],by simp[go_sem],by simp[go_sem],by simp[go_sem],by simp[go_sem],by simp[go_sem],by simp[go_sem],by simp[go_sem,hB],[],GrpM.nil (by simp[go_sem]),fun q v h=>by simp[getK]at h⟩
 rintro k st hk ⟨e4,e5,e6,e9,e14,e15,e16,g1,cs,hG,h2⟩;by_cases hlt:k<b.ts.length
 .have w1:qj.wrap ((k:Int)+1)=(k:Int)+1:=qg (by omega) (by omega)
  obtain⟨v0,v1⟩:=hb _ (qu hlt);have d1:b.ts[k].tdiv m=b.ts[k] / m:=Int.tdiv_eq_ediv_of_nonneg v0;have d2:b.ts[k].tmod m=b.ts[k] % m:=wr v0;have q0:0<=b.ts[k] / m:=Int.ediv_nonneg v0 (by omega);have q1:b.ts[k] / m<=b.ts[k]:=Int.ediv_le_self _ v0;have w2:qj.wrap (b.ts[k] / m)=b.ts[k] / m:=qg (by omega) (by omega);have hm0:¬m=0:=by omega
  have hs:=kL m (b.ts.take k) b.ts[k];rw[<-yj hlt]at hs;have hcur:=hG.cur (b.ts[k] / m);have hl1:=keyI.look (et:=28) (t:=170) (by simp[go_sem]) (mu:=st.mu) (m := .mp 0) (venc:=id) (es:=cs) (by simp only[js,hG.at0]) (k:=b.ts[k] / m) trivial (fun _ _=>trivial) (z := .lst true []) (by simp[go_sem]) false;have hlook:z7 qd st.mu 170 B (aI (b.ts[k] / m)) false=some ((getK (b.ts[k] / m) cs).getD (.lst true [])):=by
   rw[hB];refine Eq.trans hl1 ?_;cases getK (b.ts[k] / m) cs<;>rfl
  have hstep:=fun (mu':Mu) (av:AV) (l:List Int)=>GrpM.step (mu':=mu') (av:=av) (l:=l) (k:=b.ts[k] / m) hG
  have hcb:∀ x,qt ((getK (b.ts[k] / m) cs).getD (.lst true []))=some x->2<=x:=by
   intro x hx;cases hc:getK (b.ts[k] / m) cs with
   |none=>rw[hc]at hx;simp[qt]at hx
   |some v=>rw[hc]at hx;exact h2 _ _ hc x hx
  have hcl:((getK (b.ts[k] / m) (grpK m (b.ts.take k))).getD []).length<=k:=by
   rw[Vc m b.ts k (by omega),yM];exact q7 (List.length_filter_le _ _) (by simp;omega)
  simp[go_sem,e4,e5,e6,e9,e14,e15,e16,hlt];refine qe.seg [0,1,2,3,4,5,6,7,8,9,10,11,12,13,14] [(0,0,[]),(1,0,[]),(2,0,[]),(3,0,[]),(4,0,[]),(5,0,[]),(6,0,[]),(7,0,[]),(8,0,[]),(9,0,[]),(10,0,[]),(11,0,[]),(12,0,[]),(13,1,[0,2]),(14,1,[])] (by kernel_rfl) (by kernel_rfl) (by simp[go_sem]) ?_;simp[go_sem,e4,e5,e6,e9,e14,e15,e16,g1,hm0,d1,d2,w2,hlook];refine qF.ownV1 (e:=3) (bt:=8) (z:=0) (l:=(getK (b.ts[k] / m) (grpK m (b.ts.take k))).getD []) (by simp[go_sem]) (by simp[go_sem]) (by simp[go_sem]) (by omega) hcur.v (by omega) ?_;intro av' mu' ho' hs' hl' hb';obtain⟨k1,k2⟩:=hstep mu' av' _ ho' hs' hb';rw[<-hs]at k2;have hupd:vw qd mu' 170 (.mp 0) (aI (b.ts[k] / m)) av'=_:=keyI.update (et:=28) (t:=170) (by simp[go_sem]) (mu:=mu') (b:=0) (venc:=id) (es:=cs) k1 (k:=b.ts[k] / m) (v:=av') trivial (fun _ _=>trivial);have l1:1<st.mu.length:=(qk.1 g1).1;have g1':mu'[1]?=some (.arr [B]):=by rw[hs' 1 l1 (fun e=>by have:=hcb 1 e;omega)];exact g1
  simp[go_sem,e4,e5,e6,e9,e14,e15,e16,g1,g1',hm0,d1,d2,w2];subst hB;refine OptK.intro _ hupd ?_;simp[go_sem,e4,e5,e6,e9,e14,e15,e16,hlt,w1];refine Keep.mk' ⟨by simp[go_sem,e4],by simp[go_sem,e5],by simp[go_sem,e6],by simp[go_sem,e9],by simp[go_sem,e14],by simp[go_sem,e15],by simp[go_sem],?_,_,by simpa[go_sem] using k2,fun q v hq x hx=>?_⟩
  .simp only[qL]
   rw[qK (by omega)];exact g1'
  .rw [Qi]at hq
   split at hq
   .cases hq;have:=hb' x hx;omega
   .exact h2 q v hq x hx
 .have hge:k=b.ts.length:=by omega
  subst hge;rw[zw]at hG;simp[go_sem,e4,e5,e6,e9,e14,e15,e16];refine .fn _ _ _ _ _ rfl rfl (fun k x y hx=>by simp at hx) (fun k x y hx hy=>?_)
  match k with
  | 0=>simp at hx hy;subst hx;subst hy;exact .hf _ (HF.ip (Zs a))
  | 1=>simp at hx hy;subst hx;subst hy;rw[hB]at g1;exact Rd.ip1 g1 (hG.rd (qdZ m b.ts))
  | 2=>simp at hx hy;subst hx;subst hy;exact .hf _ (yI (HF.sc _))
  | 3=>simp at hx hy;subst hx;subst hy;exact .hf _ (yI (HF.sc _))
  |k+4=>simp at hx
theorem lookG(mu:Mu)(m:Int)(ys:List Int)(k:Int):∃ f,z7 qd mu 170 (imG (grpK m ys)) (aI k) false=some (.lst f (((getK k (grpK m ys)).getD []).map rI)):=by
 have:=keyI.look (et:=28) (t:=170) (by simp[go_sem]) (mu:=mu) (m:=imG (grpK m ys)) (venc:=lI) (es:=grpK m ys) rfl (k:=k) trivial (fun _ _=>trivial) (z := .lst true []) (by simp[go_sem]) false;simp only[z7];cases h:getK k (grpK m ys) with
 |none=>rw[h]at this;exact⟨true,this⟩
 |some l=>rw[h]at this;exact⟨false,this⟩
theorem qeE{α β:Type}(f:α->List β){l:List α}{k j:Nat}{x:β}(hk:k<l.length)(h:(f l[k])[j]?=some x):(l.flatMap f)[((l.take k).flatMap f).length+j]?=some x:=by
 have e:l=l.take k++l[k] :: l.drop (k+1):=by rw[<-zj hk,ud]
 have e2:l.flatMap f=(l.take k).flatMap f++(f l[k]++(l.drop (k+1)).flatMap f):=by
  conv=>lhs;rw[e]
  rw[List.flatMap_append,Z0]
 rw[e2,qV (by omega),Nat.add_sub_cancel_left,qp (qk.1 h).1];exact h
theorem qeF(n m:Int)(hn:0<n)(hn2:n<=20)(hm:0<m)(hm2:m<=8000)(a b:Rl)(ha:∀ t,t∈a.ts->0<=t/\t<=1000000)(hal:a.ts.length<=1000000)(hbl:b.ts.length<=1000000) :
  yY qd 141 (matC n m a b) ((joL n m a.ts b.ts).map fun t=>[aI t]):=by
 refine yY.of call141 fun i I Ix hS hX hY mu h0=>?_
 refine qSW call141 func141 rfl {} ?_;have hlk:=fun mu=>lookG mu m b.ts
 obtain⟨B,hB⟩:∃ B,B=imG (grpK m b.ts):=⟨_,rfl⟩;have hBc:B.cells=[B]:=by rw[hB];rfl
 have hBo:B.one=true:=by rw[hB];rfl
 simp only[<-hB]at hlk⊢;rw[<-qd0]at hY⊢;generalize hF:(fun s=>((getK (s % n) (grpK m b.ts)).getD []).map fun t=>s / n*m+t)=F at *
 have hFk:∀ s,F s=((getK (s % n) (grpK m b.ts)).getD []).map fun t=>s / n*m+t:=fun s=>by rw[<-hF]
 simp[go_sem];refine ql.upK a.ts.length (fun k st=>st.tm 0 = .yl i/\st.tm 2 = .ip [B]/\st.tm 3 = .ip [aI n]/\st.tm 4 = .ip [aI m]/\st.tm 11=lI a.ts/\st.tm 12=aI a.ts.length/\st.tm 13=aI k/\I ((a.ts.take k).flatMap F).length st.mu) ?_ ?_
 .exact ⟨by simp[go_sem],by simp[go_sem,hB],by simp[go_sem],by simp[go_sem],by simp[go_sem],by simp[go_sem],by simp[go_sem],by simpa[go_sem] using h0⟩
 rintro k st hk ⟨e0,e2,e3,e4,e11,e12,e13,hI⟩;by_cases hlt:k<a.ts.length
 .have w1:qj.wrap ((k:Int)+1)=(k:Int)+1:=qg (by omega) (by omega)
  obtain⟨v0,v1⟩:=ha _ (qu hlt);have d1:a.ts[k].tdiv n=a.ts[k] / n:=Int.tdiv_eq_ediv_of_nonneg v0;have d2:a.ts[k].tmod n=a.ts[k] % n:=wr v0;have q0:0<=a.ts[k] / n:=Int.ediv_nonneg v0 (by omega);have q1:a.ts[k] / n<=a.ts[k]:=Int.ediv_le_self _ v0;have w2:qj.wrap (a.ts[k] / n)=a.ts[k] / n:=qg (by omega) (by omega);have hn0:¬n=0:=by omega
  obtain⟨f,hlook⟩:=hlk st.mu (a.ts[k] % n);have hgl:((getK (a.ts[k] % n) (grpK m b.ts)).getD []).length<=1000000/\∀ t,t∈(getK (a.ts[k] % n) (grpK m b.ts)).getD []->0<=t/\t<m:=by
   have:=Vc m b.ts b.ts.length (qr _) (a.ts[k] % n);rw[zw]at this;rw[this];refine⟨by rw[yM];exact q7 (List.length_filter_le _ _) hbl,fun t ht=>?_⟩;obtain⟨u,_,rfl⟩:=qs.1 ht;exact⟨Int.emod_nonneg _ (by omega),Int.emod_lt_of_pos _ hm⟩
  have hFs:=hFk a.ts[k];generalize (getK (a.ts[k] % n) (grpK m b.ts)).getD []=L at *
  obtain⟨m0,m1⟩:=U4 (x:=1000000) (y:=8000) q0 (by omega) (by omega:0<=m) hm2 (by omega);have w3:qj.wrap (a.ts[k] / n*m)=a.ts[k] / n*m:=qg (by omega) (by omega);simp[go_sem,e0,e2,e3,e4,e11,e12,e13,hlt];refine qe.intro (by kernel_rfl) ?_;simp[go_sem,e0,e2,e3,e4,e11,e12,e13,hlt,hBc,hBo,hn0,d1,d2,hlook];refine ql.upK L.length (fun j st=>st.tm 0 = .yl i/\st.tm 2 = .ip [B]/\st.tm 3 = .ip [aI n]/\st.tm 4 = .ip [aI m]/\st.tm 7=aI a.ts[k]/\st.tm 11=lI a.ts/\st.tm 12=aI a.ts.length/\st.tm 13=aI k/\st.tm 21 = .lst f (L.map rI)/\st.tm 22=aI L.length/\st.tm 23=aI j/\I (((a.ts.take k).flatMap F).length+j) st.mu) ?_ ?_
  .exact ⟨by simp[go_sem,e0],by simp[go_sem,e2],by simp[go_sem,e3],by simp[go_sem,e4],by simp[go_sem],by simp[go_sem,e11],by simp[go_sem,e12],by simp[go_sem,e13],by simp[go_sem],by simp[go_sem],by simp[go_sem],by simpa[go_sem] using hI⟩
  rintro j st hj ⟨f0,f2,f3,f4,f7,f11,f12,f13,f21,f22,f23,hI⟩;by_cases hlt2:j<L.length
  .have w4:qj.wrap ((j:Int)+1)=(j:Int)+1:=qg (by omega) (by omega)
   obtain⟨u0,u1⟩:=hgl.2 _ (qu hlt2);have w5:qj.wrap (a.ts[k] / n*m+L[j])=a.ts[k] / n*m+L[j]:=qg (by omega) (by omega);have hget:((a.ts.flatMap F).map fun t=>[aI t])[((a.ts.take k).flatMap F).length+j]?=some [aI (a.ts[k] / n*m+L[j])]:=by
    rw[zk,qeE F hlt (x:=a.ts[k] / n*m+L[j]) (by rw[hFs,zk,qv hlt2];rfl)];rfl
   simp[go_sem,f0,f2,f3,f4,f7,f11,f12,f13,f21,f22,f23,hlt2];refine qe.tail 8 (by kernel_rfl) ?_;simp[go_sem,f0,f2,f3,f4,f7,f11,f12,f13,f21,f22,f23,hlt2,hn0,d1,w2,w3,w5];refine qb.yield (hY _ _ _ hget hI) ?_;rintro b mu' (⟨rfl,hI'⟩|⟨rfl,hx'⟩)
   .simp [go_sem,f0,f2,f3,f4,f7,f11,f12,f13,f21,f22,f23,hlt2,w4]
    exact Keep.mk' ⟨by simp[go_sem,f0],by simp[go_sem,f2],by simp[go_sem,f3],by simp[go_sem,f4],by simp[go_sem,f7],by simp[go_sem,f11],by simp[go_sem,f12],by simp[go_sem,f13],by simp[go_sem,f21],by simp[go_sem,f22],by simp[go_sem],hI'⟩
   .simp [go_sem,f0,f2,f3,f4,f7,f11,f12,f13,f21,f22,f23,hlt2]
    exact .inr hx'
  .have hge:j=L.length:=by omega
   subst hge;simp[go_sem,f0,f2,f3,f4,f7,f11,f12,f13,f21,f22,f23,w1];refine⟨hlt,Keep.mk' ⟨by simp[go_sem,f0],by simp[go_sem,f2],by simp[go_sem,f3],by simp[go_sem,f4],by simp[go_sem,f11],by simp[go_sem,f12],by simp[go_sem],?_⟩⟩;rw[yj hlt,List.flatMap_append,zt];simpa[go_sem,hFs] using hI
 .have hge:k=a.ts.length:=by omega
  subst hge;rw[zw]at hI;simp[go_sem,e0,e2,e3,e4,e11,e12,e13];exact .inl (by simpa[List.length_flatMap] using hI)
end EU
namespace EC
open E1 E2
theorem kT(n:Int):powI n 2=n*n:=by
 have:=uy (n:=n) (i:=1) (j:=1) (by omega) (by omega) (by omega);rw[vV]at this;exact this
end EC
namespace EY
open E1 E2 E3 EO EP EQ ET EW EU EC
def GatM(mu:Mu)(l:List Int):Prop:=∃ av,mu[0]?=some (.arr [aI 0,.lst true []])/\mu[1]?=some (.arr [av])/\OwnI mu av l/\qt av≠some 0/\qt av≠some 1
theorem GatM.step{mu mu':Mu}{av av':AV}{l:List Int}(h0:mu[0]?=some (.arr [aI 0,.lst true []]))(h1:mu[1]?=some (.arr [av]))(n0:qt av≠some 0)(n1:qt av≠some 1)(ho:OwnI mu' av' l)
  (hs:∀ i,i<mu.length->qt av≠some i->mu'[i]?=mu[i]?) (hl:mu.length<=mu'.length) (hb:∀ b,qt av'=some b->b=mu.length):mu'[1]?=some (.arr [av])/\GatM (mu'.set 1 (.arr [av'])) l:=by
 have l1:1<mu.length:=(qk.1 h1).1;have m0:qt av'≠some 0:=fun e=>by have:=hb 0 e;omega
 have m1:qt av'≠some 1:=fun e=>by have:=hb 1 e;omega
 refine⟨by rw[hs 1 l1 n1];exact h1,av',by rw[qK (by omega),hs 0 (by omega) n0];exact h0,by rw[zb (by omega)],ho.same fun b hb'=>?_,m0,m1⟩;rw[qK (fun e=>m1 (by rw[e];exact hb'))]
theorem GatM.push{mu:Mu}{l:List Int}(h:GatM mu l):GatM (mu++[.dead]) l:=by
 obtain⟨av,g0,g1,ho,n0,n1⟩:=h;exact⟨av,by rw[qp (qk.1 g0).1];exact g0,by rw[qp (qk.1 g1).1];exact g1,ho.same fun b hb=>by rw[qp (ho.v.lt hb)],n0,n1⟩
theorem GR.none{n:Int}(h:n=0){a:Rl}(g:GR n a):a.ts=[]:=by
 cases ht:a.ts with
 |nil=>rfl
 |cons t l =>
  exfalso;obtain⟨v0,v1⟩:=g.val t (by rw[ht];simp);have a1:=g.ar1;rw[ZA (by omega) g.ar3,h]at v1;have:(0:Int) ^ a.ar.toNat=0:=by
   obtain⟨k,hk⟩:∃ k,a.ar.toNat=k+1:=⟨a.ar.toNat-1,by omega⟩;rw[hk,Int.pow_succ,Int.mul_zero]
  omega
theorem qeG(n m:Int)(x y:List Int):(joL n m x y).length<=x.length*y.length:=by
 induction x with
 |nil=>simp[joL]
 |cons s x ih =>
  simp only[joL,Z0,zt,yM,z6]at ih⊢;have:=List.length_filter_le (fun t=>decide (t / m=s % n)) y;rw[Nat.add_mul];omega
theorem vT(n:Int)(h0:0<=n)(h12:n<=12)(a b:Rl)(ha:GR n a)(hb:GR n b)(hs:a.ar+b.ar<=5->a.ts.length*b.ts.length<=1000000):qi qd 32 [aI n,eRel a,eRel b] (match jf n a b with | .ok r => .tup [eRel r,aI 0] | .error e => .tup [eRel ⟨0,[]⟩,aI e]):=by
 refine qSQ call32 func32 rfl {} ?_;have a1:=ha.ar1;have a3:=ha.ar3;have b1:=hb.ar1;have b3:=hb.ar3;have la:=ha.len h0 (by omega);have lb:=hb.len h0 (by omega);have w0:qj.wrap (a.ar+b.ar)=a.ar+b.ar:=qg (by omega) (by omega);have w1:qj.wrap (a.ar+b.ar-2)=a.ar+b.ar-2:=qg (by omega) (by omega);unfold jf;by_cases hc1:1<=a.ar+b.ar-2
 case neg =>
  have hn:a.ar+b.ar-2<1:=by omega
  rw[if_neg (by omega)];simp[go_sem,w0,w1,hn];exact wJ Qq
 by_cases hc3:a.ar+b.ar-2<=3
 case neg =>
  have hn:¬a.ar+b.ar-2<1:=by omega
  have hn3:3<a.ar+b.ar-2:=by omega
  rw[if_neg (by omega)];simp[go_sem,w0,w1,hn,hn3];exact wJ Qq
 have hn:¬a.ar+b.ar-2<1:=by omega
 have hn3:¬ 3<a.ar+b.ar-2:=by omega
 rw[if_pos ⟨hc1,hc3⟩];by_cases hz:n=0
 .have e:joR n a b=⟨a.ar+b.ar-2,[]⟩:=by
   unfold joR;rw[GR.none hz ha];rfl
  simp[go_sem,w0,w1,hn,hn3,hz];subst hz;rw[e];exact wJ Qq
 have hn1:1<=n:=by omega
 have w2:qj.wrap (b.ar-1)=b.ar-1:=qg (by omega) (by omega);have hp:0<powI n (b.ar-1):=Int.pow_pos (by omega);obtain⟨p0,p1⟩:=u3 (k:=b.ar-1) h0 (by omega:n<=20);obtain⟨q0,q1⟩:=u3 (k:=b.ar) h0 (by omega:n<=20);obtain⟨r0,r1⟩:=u3 (k:=a.ar) h0 (by omega:n<=20);have hav:∀ t,t∈a.ts->0<=t/\t<=1000000:=fun t ht=>by have:=ha.val t ht;omega
 have hbv:∀ t,t∈b.ts->0<=t/\t<=1000000:=fun t ht=>by have:=hb.val t ht;omega
 have hpw:=U3 n h0 (by omega) (b.ar-1) (by omega) (by omega);have hJ:joR n a b=⟨a.ar+b.ar-2,ofL (joL n (powI n (b.ar-1)) a.ts b.ts)⟩:=rfl;have hjl:=qeG n (powI n (b.ar-1)) a.ts b.ts;have hs:=hs (by omega);have hmt:=qeD n (powI n (b.ar-1)) hp p1 a b hbv (by omega);have hmi:=qeF n (powI n (b.ar-1)) (by omega) (by omega) hp p1 a b hav (by omega) (by omega);have hmw:WKs [aI n,aI (powI n (b.ar-1)),eRel a,eRel b] [aI n,aI (powI n (b.ar-1)),eRel a,eRel b] := .cons (.hf (HF.sc _)) (.cons (.hf (HF.sc _)) (.cons (.hf (qM a)) (.cons (.hf (qM b)) .nil)));simp only[hJ];generalize powI n (b.ar-1)=m at *
 generalize joL n m a.ts b.ts=J at *
 simp[go_sem,w0,w1,hn,hn3,hz];refine qe.intro (by kernel_rfl) ?_;simp[go_sem,w2];refine qb.pure hpw (.cons (.hf (HF.sc _)) (.cons (.hf (HF.sc _)) .nil)) ?_;simp[go_sem];refine qb.pure hmt hmw ?_;simp[go_sem];refine j8.keep hmi (fun j M=>GatM M (J.take j)) (fun _ _=>False) ?_ ?_ ?_ ?_ ?_ ?_
 .exact ⟨.lst true [],by simp[go_sem],by simp[go_sem],.inl ⟨rfl,rfl⟩,by simp[qt],by simp[qt]⟩
 .exact fun j M h=>h.push
 .intro e M h;exact h
 .rintro j x M hj ⟨av,g0,g1,ho,n0,n1⟩
  rw[zk,vo]at hj;obtain⟨t,ht,rfl⟩:=hj;obtain⟨hjl',hte⟩:=qk.1 ht;refine⟨rfl,?_⟩;simp[go_sem,g1];refine qF.ownV1 (e:=3) (bt:=8) (z:=0) (by simp[go_sem]) (by simp[go_sem]) (by simp[go_sem]) (by omega) ho.v (by simp;omega) ?_;intro av' mu' ho' hs' hl' hb';obtain⟨k1,k2⟩:=GatM.step g0 g1 n0 n1 ho' hs' hl' hb';simp[go_sem,k1,ho'.v.one,ho'.v.cells];refine jP.intro ?_;rw[yj hjl',hte];exact k2
 .rintro M ⟨av,g0,g1,ho,n0,n1⟩
  rw[yM,zw]at ho;simp[go_sem,g1,ho.v.one];refine qb.eff0 (UZ M _ av J (by omega) ho) ?_ ?_
  .rintro r m' ⟨x,h,ho2,hs2,hl2,hb2⟩
   cases h;have h1:=hs2 0 (qk.1 g0).1 n0;rw[g0]at h1;have hset:∀ c,(m'.set 0 c)[0]?=some c:=fun c=>zb (qk.1 h1).1
   have hx:qt x≠some 0:=fun h=>n0 (hb2 _ h)
   simp[go_sem,h1,hset,ho2.one,ho2.cells];refine wJ (r:=⟨a.ar+b.ar-2,ofL J⟩) (OwnV.rdRel (ho2.same fun b hb=>?_));rw[qK (fun e=>hx (by rw[e];exact hb))]
  .rintro r m' ⟨x,h,_⟩
   cases h
 .intro e M h;exact h.elim
theorem U8(p:List Int)(hl:p.length<=1000000000):qi qd 79 [lI p] (lI p):=by
 refine qSQ call79 func79 rfl {} ?_;cases p with
 |nil =>
  simp[go_sem,lI];refine⟨.wk _ true _ (.hf _ (HF.lst (full:=true) (xs:=[]) fun r hr=>by simp at hr)),?_⟩;refine qF.ownVs (e:=3) (bt:=8) (z:=0) (l:=[]) (ys:=[]) (by simp[go_sem]) (by simp[go_sem]) (by simp[go_sem]) (by omega) (.inl ⟨rfl,rfl⟩) (by simp[qG]) (by simp) ?_;intro av mu' ho _ _ _;simp[go_sem];exact ho.v.rd
 |cons x l =>
  simp[go_sem,lI];refine qF.ownVs (e:=3) (bt:=8) (z:=0) (l:=[]) (ys:=x :: l) (by simp[go_sem]) (by simp[go_sem]) (by simp[go_sem]) (by omega) (.inl ⟨rfl,rfl⟩) (by simp[qG]) (by simp at hl⊢;omega) ?_;intro av mu' ho _ _ _;simp[go_sem];exact ho.v.rd
theorem Ve{n:Int}(h0:0<=n)(h12:n<=12){a:Rl}(g:GR n a)(h2:a.ar=2):a.ts.length<=144:=by
 have e:=kT n;have hn:n*n<=12*12:=jp h12 h12 h0 (by omega);exact Yu g.srt fun t ht=>by have:=g.val t ht;rw[h2,e]at this;omega
theorem qeH{a b:Rl}(hs:zY a.ts):a.ts.length<=(unR a b).ts.length:=by
 refine jH (J4 hs) fun x hx=>?_
 exact(J5 (a.ts++b.ts)).2 x |>.2 (yO _ hx)
theorem wkJ(n:Int)(a b:Rl):WKs [aI n,eRel a,eRel b] [aI n,eRel a,eRel b] := .cons (.hf (HF.sc _)) (.cons (.hf (qM a)) (.cons (.hf (qM b)) .nil))
theorem wkR2(a b:Rl):WKs [eRel a,eRel b] [eRel a,eRel b] := .cons (.hf (qM a)) (.cons (.hf (qM b)) .nil)
theorem Yx(n:Int)(h0:0<=n)(h12:n<=12)(a:Rl)(ha:GR n a)(h2:a.ar=2):qi qd 36 [aI n,eRel a] (eRel (clR n 200 a)):=by
 refine qSQ call36 func36 rfl {} ?_;have hal:=Ve h0 h12 ha h2;simp[go_sem];refine qb.pure (U8 a.ts (by omega)) (.cons (.hf (zM _)) .nil) ?_;simp[go_sem];refine ql.keep (fun m st=>∃ c,m=145-c.ts.length/\GR n c/\c.ar=2/\(∃ f,145<=f+c.ts.length/\clR n f c=clR n 200 a)/\st.tm 0=aI n/\st.tm 4 = .ptr 0 0/\st.tm 5 = .ptr 1 0/\∃ rest,st.mu = .arr [aI 0,.lst true []] :: .arr (cRel c) :: rest) (145-a.ts.length) ?_ ?_
 .exact ⟨a,rfl,ha,h2,⟨200,by omega,rfl⟩,by simp[go_sem],by simp[go_sem],by simp[go_sem],[],by simp[go_sem,h2]⟩
 rintro m st ⟨c,rfl,gc,c2,⟨f,hf,hcl⟩,e0,e4,e5,rest,hm⟩;have hl0:=Ve h0 h12 gc c2;have gj:=GR.join h0 gc gc (by omega) (by omega);have gu:=GR.union gc gj (by show c.ar=c.ar+c.ar-2;omega);have hul:=Ve h0 h12 gu c2;have hge:=qeH (b:=joR n c c) gc.srt;have hj:=vT n h0 h12 c c gc gc fun _=>q7 (Nat.mul_le_mul hl0 hl0) (by omega)
 have hje:jf n c c = .ok (joR n c c):=by unfold jf;rw[if_pos ⟨by omega,by omega⟩]
 rw[hje]at hj;have hjl:=Ve h0 h12 gj (by show c.ar+c.ar-2=2;omega);have hu:=y7 c (joR n c c) (by omega) (by omega);simp[go_sem,e0,e4,e5,hm];refine qb.pure hj (wkJ n c c) ?_;simp[go_sem,e0,e4,e5,hm];refine qb.pure hu (wkR2 c (joR n c c)) ?_;generalize hU:unR c (joR n c c)=U at *
 by_cases he:U.ts.length=c.ts.length
 .have hr:clR n 200 a=c:=by
   rw[<-hcl];cases f with
   |zero=>omega
   |succ f=>rw[clR,hU,if_pos he]
  rw[hr];simp[go_sem,e0,e4,e5,hm,he];exact .hf _ (qM c)
 .have hcl2:∃ f,145<=f+U.ts.length/\clR n f U=clR n 200 a:=by
   cases f with
   |zero=>omega
   |succ f =>
    rw[clR,hU,if_neg he]at hcl;exact⟨f,by omega,hcl⟩
  have hU2:U.ar=2:=by rw[<-hU];exact c2
  simp[go_sem,e0,e4,e5,hm,he];exact Keep.loop (145-U.ts.length) (by omega) ⟨U,rfl,gu,hU2,hcl2,by simp[go_sem,e0],by simp[go_sem,e4],by simp[go_sem,e5],_,by simp[go_sem];rfl⟩
end EY
namespace EZ
open E1 E2 EO EP EQ ER ET EY
theorem kU(m:Int)(hm:0<m)(x:Int)(hx:0<=x/\x<=1000000):qi qd 150 [aI x,.ip [aI m]] (aI (x / m)):=by
 refine qSQ call150 func150 rfl {} ?_;have d1:x.tdiv m=x / m:=Int.tdiv_eq_ediv_of_nonneg hx.1;have q0:0<=x / m:=Int.ediv_nonneg hx.1 (by omega);have q1:x / m<=x:=Int.ediv_le_self _ hx.1;have w2:qj.wrap (x / m)=x / m:=qg (by omega) (by omega);simp[go_sem,show ¬m=0 by omega,d1,w2];exact .hf _ (HF.sc _)
abbrev ovF(m:Int):AV := .fn (.func 150) [] [.ip [aI m]]
theorem ZB(m:Int):HF (ovF m):=HF.fn (by simp) (by simp;exact yI (HF.sc _))
theorem FnOk.ov(m:Int)(hm:0<m)(ok:Int->Prop)(h:∀ x,ok x->0<=x/\x<=1000000):FnOk qd (ovF m) (fun x:Int=>aI x) ok (fun x=>aI (x / m)):=
 ⟨ZB m,_,[],_,rfl,fun x hx=>⟨_,.cons (.hf (HF.sc _)) (.cons (.hf (yI (HF.sc _))) .nil),kU m hm x (h x hx)⟩⟩
theorem qeI(m:Int)(hm:0<m)(ts:List Int)(x:Int)(hx:0<=x/\x<=1000000):qi qd 151 [aI x,.ip [imC (cntK (fun t=>t / m) ts)],.ip [ovF m]] (aB (decide ((getK (x / m) (cntK (fun t=>t / m) ts)).getD 0=0))):=by
 refine qSQ call151 func151 rfl {} ?_;have hl:=fun mu=>U2 mu (fun t=>t / m) ts (x / m)
 have hBc:(imC (cntK (fun t=>t / m) ts)).cells=[imC (cntK (fun t=>t / m) ts)]:=rfl;have hBo:(imC (cntK (fun t=>t / m) ts)).one=true:=rfl;generalize imC (cntK (fun t=>t / m) ts)=B at *
 simp[go_sem];refine qe.intro (by kernel_rfl) ?_;simp[go_sem];refine qb.clo (kU m hm x hx) (.cons (.hf (HF.sc _)) (.cons (.hf (yI (HF.sc _))) .nil)) ?_;simp[go_sem,hl];exact .hf _ (HF.sc _)
theorem qeJ(m:Int)(ts:List Int)(x:Int):(getK (x / m) (cntK (fun t=>t / m) ts)).getD 0=0↔∀ u,u∈ts->u / m≠x / m:=by
 obtain⟨h1,h2⟩:=kK (fun t=>t / m) ts (x / m);constructor
 .intro h u hu e
  have:=h2.2 ⟨u,hu,e⟩;omega
 .intro h
  have:¬ 0<(getK (x / m) (cntK (fun t=>t / m) ts)).getD 0:=fun hp=>by
   obtain⟨u,hu,e⟩:=h2.1 hp;exact h u hu e
  omega
theorem U9(n:Int)(h0:0<=n)(h12:n<=12)(a b:Rl)(ha:GR n a)(hb:GR n b)(e:a.ar=b.ar):qi qd 83 [aI n,eRel a,eRel b] (eRel (ovR n a b)):=by
 refine qSQ call83 func83 rfl {} ?_;have b1:=hb.ar1;have b3:=hb.ar3;have la:=ha.len h0 (by omega);have lb:=hb.len h0 (by omega);by_cases hz:n=0
 .have hr:ovR n a b=⟨a.ar,[]⟩:=by
   unfold ovR unR;rw[GR.none hz ha,GR.none hz hb,e];rfl
  rw[hr];simp[go_sem,hz];exact Qq
 have w2:qj.wrap (b.ar-1)=b.ar-1:=qg (by omega) (by omega);have hp:0<powI n (b.ar-1):=Int.pow_pos (by omega);obtain⟨p0,p1⟩:=u3 (k:=b.ar-1) h0 (by omega:n<=20);obtain⟨q0,q1⟩:=u3 (k:=b.ar) h0 (by omega:n<=20);obtain⟨r0,r1⟩:=u3 (k:=a.ar) h0 (by omega:n<=20);have hav:∀ t,t∈a.ts->0<=t/\t<=1000000:=fun t ht=>by have:=ha.val t ht;omega
 have hbv:∀ t,t∈b.ts->0<=t/\t<=1000000:=fun t ht=>by have:=hb.val t ht;omega
 have hpw:=U3 n h0 (by omega) (b.ar-1) (by omega) (by omega);unfold ovR;generalize powI n (b.ar-1)=m at *
 have hst:=setU b (ovF m) (fun t=>t / m) (FnOk.ov m hp (·∈b.ts) hbv) (by omega);have hfi:=Qo (cntK (fun t=>t / m) b.ts);have hk:=U0 a.ts (.fn (.func 151) [] [.ip [imC (cntK (fun t=>t / m) b.ts)],.ip [ovF m]]) (fun t=>decide (∀ u,u∈b.ts->u / m≠t / m)) ⟨HF.fn (by simp) (by simp;exact⟨yI hfi,yI (ZB m)⟩),_,[],_,rfl,fun x hx=>⟨_,.cons (.hf (HF.sc _)) (.cons (.hf (yI hfi)) (.cons (.hf (yI (ZB m))) .nil)),by have:=qeI m hp b.ts x (hav x hx);simp only[qeJ m b.ts x]at this;exact this⟩⟩ (by omega);have hBc:(imC (cntK (fun t=>t / m) b.ts)).cells=[imC (cntK (fun t=>t / m) b.ts)]:=rfl;have hBo:(imC (cntK (fun t=>t / m) b.ts)).one=true:=rfl;generalize imC (cntK (fun t=>t / m) b.ts)=B at *
 have hkw:WKs [lI a.ts,.fn (.func 151) [] [.ip [B],.ip [ovF m]]] [lI a.ts,.fn (.func 151) [] [.ip [B],.ip [ovF m]]] := .cons (.hf (zM _)) (.cons (.hf (HF.fn (by simp) (by simp;exact⟨yI hfi,yI (ZB m)⟩))) .nil);have hfl:=List.length_filter_le (fun t=>decide (∀ u,u∈b.ts->u / m≠t / m)) a.ts;have hu:=y7 b ⟨a.ar,a.ts.filter fun t=>decide (∀ u,u∈b.ts->u / m≠t / m)⟩ (by omega) (q7 hfl (by omega));have huw:=wkR2 b ⟨a.ar,a.ts.filter fun t=>decide (∀ u,u∈b.ts->u / m≠t / m)⟩;generalize a.ts.filter (fun t=>decide (∀ u,u∈b.ts->u / m≠t / m))=K at *
 simp[go_sem,hz];rw[w2];refine qb.pure hpw (.cons (.hf (HF.sc _)) (.cons (.hf (HF.sc _)) .nil)) ?_;simp[go_sem];refine qb.eff0 (qY.freezeM (args1:=[eRel b,ovF m]) (mu':=[.arr [aI 0,.lst true []],.dead,.arr [ovF m]]) (fun i=>i == 1) ?_ ?_ (hst.toSound _ (.cons (.hf (qM b)) (.cons (.hf (ZB m)) .nil)))) ?_ ?_
 .exact ⟨.same _,.fn _ _ _ _ _ rfl rfl (by simp) (fun k x y hx hy=>by
   match k with
   | 0=>simp at hx hy;subst hx;subst hy;exact .rd _ _ (Rd.ip1 rfl (.hf _ (HF.sc _)))
   |k+1=>simp at hx),trivial⟩
 .refine ⟨rfl,fun i c' h1 h2=>?_⟩
  match i with
  | 0=>simp at h1;subst h1;exact⟨rfl,_,rfl,by simp,.inl rfl⟩
  | 1=>simp at h1;exact absurd h1.symm h2
  | 2 =>
   simp at h1;subst h1;exact⟨rfl,_,rfl,by simp,.inr ⟨_,_,rfl,rfl,⟨.fn _ _ _ _ _ rfl rfl (by simp) (fun k x y hx hy=>by
    match k with
    | 0=>simp at hx hy;subst hx;subst hy;exact .rd _ _ (Rd.ip1 rfl (.hf _ (HF.sc _)))
    |k+1=>simp at hx),trivial⟩,rfl⟩⟩
  |i+3=>simp at h1
 .rintro r mu' ⟨h,rfl⟩
  cases h;simp[go_sem,hBc,hBo];refine qe.fz (FzQ.one (d:=8) (b:=2) (x := .ip [ovF m]) (Rd.ip1 rfl (.hf _ (ZB m))) ?_);refine qe.fz (FzQ.one (d:=9) (b:=3) (x := .ip [B]) ?_ ?_)
  .simp [go_sem,cutM]
   exact Rd.ip1 rfl (.hf _ hfi)
  simp[go_sem,cutM];refine qe.intro (by kernel_rfl) ?_;simp[go_sem];refine qb.pure hk hkw ?_;simp[go_sem];refine qb.pure hu huw ?_;simp[go_sem];exact .hf _ (qM _)
 .rintro r mu' ⟨h,rfl⟩
  cases h
end EZ
namespace Y10
open Y1 Y2 Y3 P1 Y6 Y7 YF Y9
abbrev rB(b:Bool):List AV:=[aB b]
theorem u5(l:List Bool):zh 1 (l.map rB):=fun r hr=>by
 obtain⟨n,_,rfl⟩:=qs.1 hr;exact⟨rfl,rfl⟩
theorem OwnF.rdB{lo:Nat}{mu:Mu}{av:AV}{xs:List Bool}(h:OwnF lo mu 1 av (xs.map rB)):Rd mu av (.lst false (xs.map rB)):=
 h.1.rd (u5 xs).ok fun r hr c hc=>by
  obtain⟨n,_,rfl⟩:=qs.1 hr;simp at hc;subst hc;exact HF.sc _
theorem Wa{lo sz:Nat}{mu mu':Mu}{av:AV}{xs:List (List AV)}(h:OwnF lo mu sz av xs)(hm:MuLe mu mu'):OwnF lo mu' sz av xs:=by
 obtain⟨ho,hb,hl⟩:=h;have hlen:mu.length<=mu'.length:=by
  rcases Nat.eq_zero_or_pos mu.length with h0|h0
  .omega
  .have:=hm (mu.length-1) mu[mu.length-1] (qv (by omega))
   have:=(qk.1 this).1;omega
 refine⟨?_,hb,q7 hl hlen⟩;rcases ho with rfl|⟨b,rfl,hc⟩
 .exact .inl rfl
 .exact .inr ⟨b,rfl,hm _ _ hc⟩
theorem Qr(ts:TS):∀ k,k<=ts.preds.length->(tmsL ts k).length=k
 | 0,_=>rfl
 |k+1,h=>by
  have hk:k<ts.preds.length:=by omega
  simp[tmsL,Qr ts k (by omega),qv hk]
theorem ZC{ts:TS}(h:okTS ts){k:Nat}(hk:k<=ts.preds.length):okCk (mkCk ts k):=⟨h,hk,Nat.le_of_eq (Qr ts k hk).symm⟩
theorem qeK(ts:TS)(h:okTS ts)(hs:∀ p,p∈ts.preds->Small p.body)(n:Nat)(hn:n<=ts.preds.length):qi qd 182 [eTS ts,aI n] (eCk (mkCk ts n)):=by
 refine qSQ call182 func182 rfl { mt:=[9] } ?_;have hnp:=h.np;simp[go_sem];refine ql.upK n (fun k st=>∃ av rest,st.tm 1=aI n/\st.tm 2 = .ip (cTS ts)/\st.tm 5 = .ptr 0 0/\st.mu=[.arr [lSo ts.sorts,lFl ts.fields,lPd ts.preds,lFa ts.facts,aI k,av]]++rest/\OwnF 1 st.mu 1 av ((tmsL ts k).map rB)) ?_ ?_
 .refine ⟨.lst true [],[],by simp[go_sem],by simp[go_sem],by simp[go_sem],by simp[go_sem],?_⟩
  exact OwnF.nil (by simp[go_sem])
 .rintro k st hk ⟨av,rest,e1,e2,e5,hm,ho⟩
  have hrd:Rd st.mu (.ptr 0 0) (eCk (mkCk ts k)):=by
   rw[hm];refine .ptr 0 0 _ _ rfl (by simp) (fun j x y hx hy=>?_);rw[<-hm]
   match j with
   | 0=>simp at hx hy;subst hx;subst hy;exact .hf _ (J0 _)
   | 1=>simp at hx hy;subst hx;subst hy;exact .hf _ (J1 _)
   | 2=>simp at hx hy;subst hx;subst hy;exact .hf _ (wI _)
   | 3=>simp at hx hy;subst hx;subst hy;exact .hf _ (Ys _)
   | 4=>simp at hx hy;subst hx;subst hy;exact .hf _ (HF.sc _)
   | 5=>simp at hx hy;subst hx;subst hy;exact OwnF.rdB ho
   |j+6=>simp at hx
  by_cases hlt:k<n
  .have hkp:k<ts.preds.length:=by omega
   simp[go_sem,e1,e2,e5,hm,hlt];refine qe.intro (by kernel_rfl) ?_;have ho':OwnF 1 (st.mu++[.arr (cNd ts.preds[k].body)]) 1 av ((tmsL ts k).map rB):=Wa ho (MuLe.push _ _);have hrd':=Rd.le (MuLe.push st.mu (.arr (cNd ts.preds[k].body))) hrd;have htm:=kx (mkCk ts k) (ZC h (by omega)) _ ts.preds[k].body (qr _) (hs _ (qu hkp));have hts:tmsL ts (k+1)=tmsL ts k++[yh (mkCk ts k) ts.preds[k].body]:=by
    simp only[tmsL,qv hkp];rfl
   have hl:=Qr ts k (by omega);rw[hm]at ho' hrd';simp[go_sem,e1,e2,e5,hm,hlt,hkp,qo];refine qe.intro (by kernel_rfl) ?_;simp[go_sem,e1,e2,e5,hm,hlt,hkp,qcQ];refine qb.lend htm ⟨by simpa using hrd',.hf _ (qI _),trivial⟩ (FL.sc _) ?_;simp[go_sem,e1,e2,e5,hm,hlt,hkp];refine qF.ownF (lo:=1) (e:=4) (sz:=1) (bt:=1) (zv:=aB false) (xs:=(tmsL ts k).map rB) (ys:=[rB (yh (mkCk ts k) ts.preds[k].body)]) (by simp[go_sem]) (by simp[go_sem]) (by simp[go_sem]) rfl rfl (by omega) (by omega) (by simpa using ho') (by simp[qG]) (u5 _) (u5 [_]) (by simp;omega) ?_;intro av' mu' ho2 hk2;obtain⟨rest',rfl⟩:=qcW (hk2 0 (by omega));have w1:qj.wrap ((k:Int)+1)=(k:Int)+1:=qg (by omega) (by omega);simp[go_sem,e1,e2,e5,hm,hlt,hkp,w1,OwnF.cells ho2,OwnF.one ho2];refine Keep.mk' ?_;refine⟨av',rest',by simp[go_sem,e1],by simp[go_sem,e2],by simp[go_sem,e5],by simp[go_sem],?_⟩;have e3:(tmsL ts k).map rB++[rB (yh (mkCk ts k) ts.preds[k].body)]=(tmsL ts (k+1)).map rB:=by rw[hts,zm];rfl
   rw[<-e3];exact OwnF.low (low:=[.arr [lSo ts.sorts,lFl ts.fields,lPd ts.preds,lFa ts.facts,aI k,av]]) (low':=[.arr [lSo ts.sorts,lFl ts.fields,lPd ts.preds,lFa ts.facts,aI (k+1),av']]) ho2 rfl
  .obtain rfl:k=n:=by omega
   simp[go_sem,e1,e2,e5,hm];rw[hm]at hrd;exact hrd
theorem ofU'(full:Bool)(l:List Int)(hl:l.length<=3)(hr:∀ x,x∈l->0<=x/\x<128):qi qd 240 [.lst full (l.map rI)] (eKd (kOf l)):=by
 have:=ofU l hl hr;refine⟨this.1,fun imm w vs hi ra=>this.2 imm w vs hi ?_⟩;obtain⟨v,rfl,rv⟩:=ra.one_inv;exact⟨rfl,fun k x hk=>by
  cases k with
  |zero=>simp at hk;subst hk;simpa using rv.ro
  |succ k=>simp at hk⟩
theorem bindU(ns:Nat)(hns:ns<=4)(env:List (ByteArray×Int))(he:env.length<=1000000)(hr:∀ p,p∈env->0<=p.2/\p.2<ns):qi qd 211 [lPm env] (aSc (y5 env)):=by
 refine qSQ call211 func211 rfl {} ?_;simp[go_sem];refine ql.up env.length (fun k st=>st.tm 3=aSc (y5 (env.take k))/\st.tm 6=lPm env/\st.tm 7=aI env.length/\st.tm 8=aI k) ?_ ?_
 .simp [go_sem]
  rfl
 .rintro k st hk ⟨e3,e6,e7,e8⟩
  by_cases he':k=env.length
  .subst he'
   simp[go_sem,e3,e6,e7,e8];exact .hf _ (uW _)
  .have hlt:k<env.length:=by omega
   have hb:y5 (env.take (k+1))=(env[k].1,kOf [env[k].2]) :: y5 (env.take k):=by
    unfold y5;rw[List.take_add_one,qv hlt,Z1];rfl
   have hof:=ofU' true [env[k].2] (by simp) (fun x hx=>by simp at hx;subst hx;have:=hr _ (qu hlt);omega);have w1:qj.wrap ((k:Int)+1)=(k:Int)+1:=qg (by omega) (by omega);simp[go_sem,e3,e6,e7,e8,hlt];refine qe.intro (by kernel_rfl) ?_;simp[go_sem,e3,e6,e7,e8,hlt];refine qb.pure hof (.cons (.hf (HF.lst fun r hr c hc=>by simp at hr;subst hr;simp at hc;subst hc;exact HF.sc _)) .nil) ?_;simp[go_sem,e3,e6,e7,e8,hlt,w1];rw[hb];rfl
theorem yk(a b:ByteArray):(a.toList == b.toList)=decide (a=b):=by
 by_cases h:a=b
 .subst h;simp
 .rw [vd h,decide_eq_false h]
theorem appK{mu:Mu}{s:AV}{xs:List Kd}{k:Kd}{K:AV->Mu->Prop}(ho:OwnF 0 mu 2 s (xs.map cKd))(hl:xs.length<=100000)(kk:∀ av mu',OwnF 0 mu' 2 av ((xs++[k]).map cKd)->K av mu') :
  qF qd mu #[256,256] s (.lst true [cKd k]) K:=by
 refine qF.ownF (lo:=0) (e:=251) (sz:=2) (bt:=16) (zv := .agg [aI 0,.sc (.map none)]) (xs:=xs.map cKd) (ys:=[cKd k]) (by simp[go_sem]) (by simp[go_sem]) (by simp[go_sem]) rfl rfl (by omega) (by omega) ho (by simp[qG]) (wH _) (wH [k]) (by simp;omega) ?_;intro av mu' h _;exact kk av mu' (by rw[zm];exact h)
theorem kV{mu:Mu}{s:AV}{xs:List Kd}{k:Kd}{K:AV->Mu->Prop}{b:Nat}{c:Cell}(ho:Own mu 2 s (xs.map cKd))(hb:mu[b]?=some c)(hs:∀ off len,s ≠ .sl b 2 off len)(hl:xs.length<=100000)
  (kk:∀ av mu',Own mu' 2 av ((xs++[k]).map cKd)->mu'[b]?=some c->(∀ off len,av ≠ .sl b 2 off len)->K av mu') :
  qF qd mu #[256,256] s (.lst true [cKd k]) K:=by
 have hbl:b<mu.length:=(qk.1 hb).1;have hfl:=jk (wH xs).ok;refine .inl ⟨_,_,251,2,16,[cKd k],rfl,by simp[go_sem],by simp[go_sem],⟨.agg [aI 0,.sc (.map none)],by simp[go_sem],rfl,rfl⟩,by omega,by omega,by simp[qG],wH [k],?_⟩;rcases ho with rfl|⟨b0,rfl,hc⟩
 .refine .inl ⟨xs.map cKd,rfl,wH xs,by simp;omega,fun h=>by simp at h,fun _=>?_⟩
  refine kk _ _ (.inr ⟨mu.length,by simp,by simp⟩) (by rw[qp hbl];exact hb) (fun off len e=>?_);injection e;omega
 .refine .inr ⟨b0,xs.length,_,by simp,hc,by simp at hfl⊢;omega,by simp;omega,?_⟩
  have hne:b0≠b:=fun e=>hs 0 _ (by rw[e])
  refine kk _ _ (.inr ⟨mu.length,by simp,?_⟩) (by rw[qp (by simpa using hbl),qK hne];exact hb) (fun off len e=>?_)
  .rw [qV (by simp)]
   have:(List.map cKd xs).flatten.take (xs.length*2)=(List.map cKd xs).flatten:=zU (by simp at hfl⊢;omega);simp only[List.length_set,Nat.sub_self,List.getElem?_cons_zero,this,zm,List.flatten_append];rfl
  .injection e;omega
theorem jB{mu:Mu}{sz:Nat}{s:AV}{xs:List (List AV)}(h:Own mu sz s xs)(c:Cell):Own (mu++[c]) sz s xs:=by
 rcases h with rfl|⟨b,rfl,hc⟩
 .exact .inl rfl
 .exact .inr ⟨b,rfl,by rw[qp (qk.1 hc).1];exact hc⟩
theorem qeL{mu:Mu}{sz:Nat}{s:AV}{xs:List (List AV)}(h:Own mu sz s xs):∀ off len,s ≠ .sl mu.length sz off len:=by
 intro off len e;rcases h with rfl|⟨b,rfl,hc⟩
 .cases e
 .have:=(qk.1 hc).1
  injection e;omega
theorem qeM{fs:List Fld}{k:Nat}(hk:k<fs.length)(nm:ByteArray):yu (fs.take (k+1)) nm=yu (fs.take k) nm++(if fs[k].name=nm then [kOf fs[k].sorts] else []):=by
 unfold yu;rw[List.take_add_one,qv hk,List.filterMap_append];congr 1;simp only[Option.toList_some,List.filterMap_cons,List.filterMap_nil];split<;>rename_i h<;>split at h<;>simp_all
theorem kW(fs:List Fld)(nm:ByteArray):(yu fs nm).length<=fs.length:=List.length_filterMap_le ..
theorem kX:∀{so:List (ByteArray×Bool)} {i k:Nat} (hk:k<so.length) (nm:ByteArray),yv i (so.take (k+1)) nm=yv i (so.take k) nm++uu (i+k) so[k] nm
 | [],_,_,h,_=>by simp at h
 |s :: so,i,0,_,nm=>by simp[yv]
 |s :: so,i,k+1,h,nm=>by
  have:=kX (so:=so) (i:=i+1) (k:=k) (by simpa using h) nm;simp only[List.take_succ_cons,yv,List.getElem_cons_succ]at this⊢;rw[this,zB,show i+1+k=i+(k+1) by omega]
theorem qeN(i:Nat)(s:ByteArray×Bool)(nm:ByteArray):(uu i s nm).length<=3:=by
 unfold uu;simp only[zt];have h:∀(p:Prop) [Decidable p] (k:Kd),(if p then [k] else []).length<=1:=fun p _ k=>by split<;>simp
 have h1:=h (s.1=nm) (kOf [(i:Int)]);have h2:=h (s.2=true/\s.1++je=nm) (kOf [(i:Int)]);have h3:=h (s.2=true/\s.1++vB=nm) (kOf [(i:Int),(i:Int)]);omega
theorem kY:∀(so:List (ByteArray×Bool)) (i:Nat) (nm:ByteArray),(yv i so nm).length<=3*so.length
 | [],_,_=>by simp[yv]
 |s :: so,i,nm=>by
  have:=kY so (i+1) nm;have:=qeN i s nm;simp only[yv,zt,z6];omega
theorem qeO(ts:TS)(h:okTS ts)(nm:ByteArray):qi qd 212 [eTS ts,aS nm] (.lst false ((jN ts nm).map cKd)):=by
  refine qSQ call212 func212 rfl {} ?_;have hnf:=h.nf;have hns:=h.ns;simp[go_sem];refine ql.upK ts.fields.length (fun k st=>st.tm 1=aS nm/\st.tm 2 = .ip (cTS ts)/\st.tm 11=lFl ts.fields/\st.tm 12=aI ts.fields.length/\st.tm 13=aI k/\OwnF 0 st.mu 2 (st.tm 5) ((yu (ts.fields.take k) nm).map cKd)) ?_ ?_
  · exact⟨by simp[go_sem],by simp[go_sem],by simp[go_sem],by simp[go_sem],by simp[go_sem],by simp[go_sem];exact OwnF.nil (Nat.zero_le _)⟩
  · rintro k st hk ⟨e1,e2,e11,e12,e13,ho⟩
    by_cases he:k=ts.fields.length
    · subst he
      rw[zw]at ho;simp[go_sem,e1,e2,e11,e12,e13];have hl1:=kW ts.fields nm;refine ql.upK ts.sorts.length (fun k st=>st.tm 1=aS nm/\st.tm 29=lSo ts.sorts/\st.tm 30=aI ts.sorts.length/\st.tm 31=aI k/\Own st.mu 2 (st.tm 5) ((yu ts.fields nm++yv 0 (ts.sorts.take k) nm).map cKd)) ?_ ?_
      · exact⟨by simp[go_sem,e1],by simp[go_sem],by simp[go_sem],by simp[go_sem],by simp[go_sem,yv];simpa using ho.1⟩
      · rintro k st hk ⟨e1,e29,e30,e31,ho⟩
        by_cases he:k=ts.sorts.length
        · subst he
          rw[zw]at ho;simp[go_sem,e1,e29,e30,e31];exact ho.rd (wH _).ok (fun r hr c hc=>by
            obtain⟨x,_,rfl⟩:=qs.1 hr;simp at hc;rcases hc with rfl|rfl
            · exact HF.sc _
            · exact Yo _)
        · have hlt:k<ts.sorts.length:=by omega
          have w1:qj.wrap ((k:Int)+1)=(k:Int)+1:=qg (by omega) (by omega);have hl2:=kY (ts.sorts.take k) 0 nm;have hl3:(ts.sorts.take k).length<=4:=by simp;omega
          have hof1:=ofU' true [(k:Int)] (by simp) (fun x hx=>by simp at hx;subst hx;omega);have hof2:=ofU' true [(k:Int),(k:Int)] (by simp) (fun x hx=>by simp at hx;subst hx;omega);have hr1:HF (.lst true [rI k]):=HF.lst fun r hr c hc=>by simp at hr;subst hr;simp at hc;subst hc;exact HF.sc _
          have hr2:HF (.lst true [rI k,rI k]):=HF.lst fun r hr c hc=>by simp at hr;subst hr;simp at hc;subst hc;exact HF.sc _
          have htk:=kX (i:=0) hlt nm;rw[yC]at htk;have hsz:=h.sl _ (qu hlt);generalize hso:ts.sorts[k]=so at *
          obtain⟨sn,sb⟩:=so;have hll:(yu ts.fields nm++yv 0 (ts.sorts.take k) nm).length<=18:=by simp at hl2 hl3⊢;omega
          have hlx:∀ x:Kd,((yu ts.fields nm++yv 0 (ts.sorts.take k) nm)++[x]).length<=19:=fun x=>by simp at hll⊢;omega
          have hly:∀ x y:Kd,(((yu ts.fields nm++yv 0 (ts.sorts.take k) nm)++[x])++[y]).length<=20:=fun x y=>by simp at hll⊢;omega
          generalize hX:yu ts.fields nm++yv 0 (ts.sorts.take k) nm=X at *
          have hfin:∀(s:AV) (mu:Mu) (Y:List Kd),Y=X++uu k (sn,sb) nm->Own mu 2 s (Y.map cKd)->Own mu 2 s ((yu ts.fields nm++yv 0 (ts.sorts.take (k+1)) nm).map cKd):=by
            intro s mu Y hY h;rw[htk,<-zB,hX,<-hY];exact h
          have hsf:∀ b:ByteArray,sn++je=b->(sn++je).toList == b.toList:=fun b h=>by rw[h];simp
          have hmu:=fun c=>jB ho c
          have hnot:=qeL ho;have hfs:(sn++je=nm)=(sn++(⟨#[95,102,105,114,115,116]⟩:ByteArray)=nm):=rfl;have hxs:(sn++vB=nm)=(sn++(⟨#[95,110,101,120,116]⟩:ByteArray)=nm):=rfl;simp only[uu,hfs,hxs]at hfin;have hs1:sn.size<=9223372036854775801:=by simp at hsz;omega
          have hs2:sn.size<=9223372036854775802:=by simp at hsz;omega
          simp only[zm]at hfin;obtain⟨d1,hd1⟩:∃ d,decide (sn=nm)=d:=⟨_,rfl⟩;obtain⟨d2,hd2⟩:∃ d,decide (sn++(⟨#[95,102,105,114,115,116]⟩:ByteArray)=nm)=d:=⟨_,rfl⟩;obtain⟨d3,hd3⟩:∃ d,decide (sn++(⟨#[95,110,101,120,116]⟩:ByteArray)=nm)=d:=⟨_,rfl⟩;have p1:(sn=nm)=(d1=true):=by rw[<-hd1];simp
          have p2:(sn++(⟨#[95,102,105,114,115,116]⟩:ByteArray)=nm)=(d2=true):=by rw[<-hd2];simp
          have p3:(sn++(⟨#[95,110,101,120,116]⟩:ByteArray)=nm)=(d3=true):=by rw[<-hd3];simp
          simp only[p1,p2,p3]at hfin;cases d1<;>cases d2<;>cases d3<;>cases sb
          all_goals simp only[if_true,if_false,zx,yP,and_false,and_true,false_and,true_and,reduceCtorEq]at hfin
          all_goals simp[go_sem,yk,e1,e29,e30,e31,hlt,hso,hd1,hd2,hd3,w1,hs1,hs2]
          all_goals repeat' (first
            | (refine qb.pure hof1 (.cons (.hf hr1) .nil) ?_
               simp[go_sem];refine kV (b:=st.mu.length) (by first|exact hmu _|assumption) (by first|assumption|exact List.getElem?_concat_length) (by assumption) (by first | (simp only[zt,List.length_singleton];omega)|omega) ?_;rintro av mu' ho2 hb2 hn2;simp[go_sem,yk,e1,e29,e30,e31,hlt,hso,hd1,hd2,hd3,w1,hs1,hs2,hb2])
            | (refine qb.pure hof2 (.cons (.hf hr2) .nil) ?_
               simp[go_sem];refine kV (b:=st.mu.length) (by first|exact hmu _|assumption) (by first|assumption|exact List.getElem?_concat_length) (by assumption) (by first | (simp only[zt,List.length_singleton];omega)|omega) ?_;rintro av mu' ho2 hb2 hn2;simp[go_sem,yk,e1,e29,e30,e31,hlt,hso,hd1,hd2,hd3,w1,hs1,hs2,hb2]))
          all_goals
            refine Keep.mk' ?_;refine⟨by simp[go_sem,e1],by simp[go_sem,e29],by simp[go_sem,e30],by simp[go_sem],?_⟩;simp only[KM,qL];simp;refine hfin _ _ _ ?_ (by first|assumption|exact hmu _);simp
    · have hlt:k<ts.fields.length:=by omega
      have hfl:=h.fl _ (qu hlt);have w1:qj.wrap ((k:Int)+1)=(k:Int)+1:=qg (by omega) (by omega);have hof:=ofU' false ts.fields[k].sorts hfl.2.1 (fun x hx=>by have:=hfl.2.2 x hx;omega);have htk:=qeM hlt nm;have hl1:=kW (ts.fields.take k) nm;by_cases hn:ts.fields[k].name=nm
      · simp[go_sem,e1,e2,e11,e12,e13,hlt,hn]
        refine qb.pure hof (.cons (.hf (zM _)) .nil) ?_;simp[go_sem,e1,e2,e11,e12,e13,hlt,hn];refine appK (xs:=yu (ts.fields.take k) nm) (Wa ho (MuLe.push _ _)) (by simp at hl1⊢;omega) ?_;intro av mu' ho2;simp[go_sem,e1,e2,e11,e12,e13,hlt,w1];refine Keep.mk' ?_;refine⟨by simp[go_sem,e1],by simp[go_sem,e2],by simp[go_sem,e11],by simp[go_sem,e12],by simp[go_sem],?_⟩;rw[htk,if_pos hn];simpa[go_sem] using ho2
      · simp[go_sem,e1,e2,e11,e12,e13,hlt,hn,vd hn,w1]
        refine Keep.mk' ?_;refine⟨by simp[go_sem,e1],by simp[go_sem,e2],by simp[go_sem,e11],by simp[go_sem,e12],by simp[go_sem],?_⟩;rw[htk,if_neg hn,zx];simpa[go_sem] using Wa ho (MuLe.push _ _)
end Y10
namespace Y11
open Y1 Y2 Y3 P1 Y7 YS YF Y9 Y10
def cKo:Option Kd->List AV
 |some k=>cKd k
 |none=>[aI 0,.sc (.map none)]
@[go_sem] theorem cKo_some(k:Kd):cKo (some k)=cKd k:=rfl
@[go_sem] theorem cKo_none:cKo none=[aI 0,.sc (.map none)]:=rfl
theorem kZ(k:Option Kd):∀ c,c∈cKo k->HF c:=by
 intro c hc;cases k with
 |none=>simp[cKo]at hc;rcases hc with rfl|rfl<;>exact HF.sc _
 |some k=>simp[cKo]at hc;rcases hc with rfl|rfl;exact HF.sc _;exact Yo _
theorem qeP(k:Option Kd):HF (.agg (cKo k)):=HF.agg (kZ k)
theorem Wb(k:Option Kd):(cKo k).length=2/\(cKo k).all AV.one=true:=by cases k<;>exact⟨rfl,rfl⟩
def endK:Res->AEnd
 | .ok k => .ret (.agg (cKo k))
 | .error e => .pan (jw e.1 e.2)
@[go_sem] theorem endK_ok(k:Option Kd):endK (.ok k) = .ret (.agg (cKo k)):=rfl
@[go_sem] theorem qm3(e:Dg):endK (.error e) = .pan (jw e.1 e.2):=rfl
theorem Wc(c:Ck)(hc:okCk c)(s:Scp)(n:Nd):qH qd 237 [eCk c,aSc s,eNd n] (endK (yU c s n.name n.pos)):=by
 refine qQ.of_sound ?_;refine qSW call237 func237 rfl {} ?_;simp[go_sem];refine qb.pure (findU s n.name) (.cons (.hf (uW s)) (.cons (.hf (HF.sc _)) .nil)) ?_;unfold yU;cases hf:yT n.name s with
 |cons v r =>
  simp[go_sem,aSc];exact .hf _ (zH v.2)
 |nil =>
  simp[go_sem,aSc];refine qe.intro (by kernel_rfl) ?_;simp[go_sem];refine qb.pure (qeO c.ts hc.ts n.name) (.cons (.hf (zl c.ts)) (.cons (.hf (HF.sc _)) .nil)) ?_;have hn0:=zN;cases hm:jN c.ts n.name with
  |nil =>
   simp[go_sem];refine qb.pans (zN false 40 n) (.cons (.hf (HF.sc _)) (.cons (.hf (HF.sc _)) (.cons (.hf (qI n)) .nil))) ?_;simp[go_sem];exact .hf _ (ya _ _)
  |cons k ks =>
   simp[go_sem];refine qb.pure (zN true 40 n).toP (.cons (.hf (HF.sc _)) (.cons (.hf (HF.sc _)) (.cons (.hf (qI n)) .nil))) ?_;cases ks with
   |nil =>
    simp[go_sem];refine qb.pure (zN true 44 n).toP (.cons (.hf (HF.sc _)) (.cons (.hf (HF.sc _)) (.cons (.hf (qI n)) .nil))) ?_;simp[go_sem];exact .hf _ (zH k)
   |cons k2 ks =>
    simp[go_sem];refine qb.pans (zN false 44 n) (.cons (.hf (HF.sc _)) (.cons (.hf (HF.sc _)) (.cons (.hf (qI n)) .nil))) ?_;simp[go_sem];exact .hf _ (ya _ _)
theorem qeQ(k ar:Nat)(har:1<=ar)(h3:ar<=3):kSum (zn k ar) (kOf (qX ar (k:Int)))=zn (k+1) ar:=by
 have hnd:∀ k,((qq k).map fun (i:Nat)=>pad (qX ar (i:Int))).Nodup:=by
  intro k;refine List.pairwise_map.2 ((List.pairwise_iff_getElem.2 fun i j hi hj hij=>?_));simp only[List.getElem_range];obtain⟨a,rfl⟩:∃ a,ar=a+1:=⟨ar-1,by omega⟩;intro e;simp[pad,List.replicate_succ]at e;omega
 have hu:∀ l:List Tp,l.Nodup->uni [] l=l:=by
  intro l hl;have:∀(b a:List Tp),(a++b).Nodup->uni a b=a++b:=by
   intro b;induction b with
   |nil=>intro a _;simp[uni]
   |cons x b ih =>
    intro a h;have hx:x ∉ a:=fun hm=>(jY.1 h).2.2 x hm x (by simp) rfl
    show uni (ins a x) b=_;rw[show ins a x=a++[x] by unfold ins;rw[if_neg hx],ih (a++[x]) (by simpa using h)];simp
  simpa using this l [] (by simpa using hl)
 unfold kSum zn kOf;simp only;rw[hu _ (hnd k)];have h1:=hnd (k+1);rw[List.range_succ,zm,List.map_singleton]at h1⊢;have hx:pad (qX ar (k:Int)) ∉ (qq k).map fun (i:Nat)=>pad (qX ar (i:Int)):=fun hm=>(jY.1 h1).2.2 _ hm _ (by simp) rfl
 congr 1;show ins _ _=_;unfold ins;rw[if_neg hx]
theorem Wd(c:Ck)(hc:okCk c)(ar:Nat)(h1:1<=ar)(h3:ar<=3):qi qd 261 [eCk c,aI ar] (eKd (zn c.ts.sorts.length ar)):=by
 refine qSQ call261 func261 rfl {} ?_;have hns:=hc.ts.ns;simp[go_sem];refine qb.pure (KU ar) (.cons (.hf (HF.sc _)) .nil) ?_;simp[go_sem];refine ql.up c.ts.sorts.length (fun k st=>st.tm 1=aI ar/\st.tm 4 = .ptr 0 0/\st.tm 5 = .ptr 1 0/\st.tm 13=lSo c.ts.sorts/\st.tm 14=aI c.ts.sorts.length/\st.tm 15=aI k/\st.mu=[.arr [aI 0,.sc (.map none)],.arr (cKd (zn k ar))]) ?_ ?_
 .simp [go_sem,zn]
 .rintro k st hk ⟨e1,e4,e5,e13,e14,e15,hm⟩
  by_cases he:k=c.ts.sorts.length
  .subst he
   simp[go_sem,e1,e4,e5,e13,e14,e15,hm];exact .hf _ (zH _)
  .have hlt:k<c.ts.sorts.length:=by omega
   have w1:qj.wrap ((k:Int)+1)=(k:Int)+1:=qg (by omega) (by omega);have hr:=qdA k ar (by omega);have hof:=ofU' false (qX ar (k:Int)) (by simpa using h3) (fun x hx=>by rw[List.eq_of_mem_replicate hx];omega);have hsu:=sumU true (zn k ar) (kOf (qX ar (k:Int))) (fun t ht=>by
    have ht:t∈(qq k).map fun (i:Nat)=>pad (qX ar (i:Int)):=ht
    obtain⟨i,_,rfl⟩:=qs.1 ht;rfl) (fun t ht=>by
    have ht:t∈[pad (qX ar (k:Int))]:=ht;simp at ht;subst ht;rfl)
   rw[qeQ k ar h1 h3]at hsu;simp[go_sem,e1,e4,e5,e13,e14,e15,hm,hlt];refine qe.intro (by kernel_rfl) ?_;simp[go_sem,e1,e4,e5,e13,e14,e15,hm,hlt];refine qb.pure hr (.cons (WK.lst fun r hr c hc=>by simp at hr;subst hr;simp at hc;subst hc;exact HF.sc _) (.cons (.hf (HF.sc _)) .nil)) ?_;simp[go_sem];refine qb.pure hof (.cons (.hf (zM _)) .nil) ?_;simp[go_sem];refine qb.pure hsu (.cons (.hf (zH _)) (.cons (.hf (Yq _ [_])) .nil)) ?_;simp[go_sem,e1,e4,e5,e13,e14,e15,hm,hlt,w1]
end Y11
namespace Y12
open Y1 Y2 Y3 P1 YM Y5 Y6 Y7 Y8 Y9 Y11
def trF(t:Tp):Tp:=[t.getD 1 0,t.getD 0 0,0]
theorem k5{a:List Tp}{t:Tp}:t∈uni [] (a.map fun t=>[t.getD 1 0,t.getD 0 0,0])↔∃ x,x∈a/\trF x=t:=by
 rw[ve];simp[trF]
theorem qeR(ns:Nat)(h:ns<=4):ok2 (zn ns 2):=by
 have hnd:((qq ns).map fun (i:Nat)=>pad (qX 2 (i:Int))).Nodup:=by
  refine List.pairwise_map.2 (List.pairwise_iff_getElem.2 fun i j hi hj hij=>?_);simp only[List.getElem_range];intro e;simp[pad,List.replicate_succ]at e;omega
 refine⟨rfl,hnd,fun t ht=>?_⟩;have ht:t∈(qq ns).map fun (i:Nat)=>pad (qX 2 (i:Int)):=ht
 obtain⟨i,hi,rfl⟩:=qs.1 ht;rw[zI]at hi;exact⟨i,i,rfl,by omega,by omega,by omega,by omega⟩
theorem qeS{a:Kd}(h:ok2 a):ok2 (kClo a):=by
 have:∀(f n:Nat) (a:Kd),ok2 a->ok2 (cloN f n a):=by
  intro f;induction f with
  |zero=>intro n a h;exact h
  |succ f ih =>
   intro n a h;unfold cloN;split
   .exact ih _ _ (h.sum h.join)
   .exact h
 exact this 70 0 a h
theorem qeT(c:Ck)(hc:okCk c)(op:Int)(a:Kd)(ha:ok2 a)(hop:op=11\/op=12\/op=13):qi qd 265 [eCk c,aI op,eKd a] (eKd (binK c.ts.sorts.length op a)):=by
 refine qSQ call265 func265 rfl {} ?_;have hns:=hc.ts.ns;unfold binK;rcases hop with rfl|rfl|rfl
 .simp [go_sem]
  refine qb.eff0 (Yp _ _) ?_ (by rintro r m ⟨e,_⟩;cases e);rintro r m ⟨e,c,rfl⟩;cases e;simp[go_sem];refine ql.seen a.ts.length (fun seen st=>st.tm 5 = .ip (cKd a)/\st.tm 6 = .ptr 0 0/\st.tm 7 = .ptr 3 0/\st.tm 25 = .ptr 4 0 /\
   ColS 2 (.arr [aI 0,.sc (.map none)]) c (.it (eT a.ts) seen) (fun t=>∃ x,(∃ i,i∈seen/\a.ts[i]?=some x)/\trF x=t) st.mu) ?_ ?_
  .exact ⟨by simp[go_sem],by simp[go_sem],by simp[go_sem],by simp[go_sem],[],rfl,rfl,rfl,rfl,rfl,by simp,by simp,by simp⟩
  .rintro seen st hnd hlt ⟨e5,e6,e7,e25,l,k0,k1,k2,k3,k4,h1,h2,h3⟩
   simp[go_sem,e5,e6,e7,e25];refine⟨4,eT a.ts,seen,rfl,k4,fun i e hi hns=>?_,fun hall=>?_⟩
   .obtain ⟨x,hx,rfl⟩:=Qj hi
    have hxo:okT x:=ha.okK.len x (qS hx);have hil:i<a.ts.length:=(qk.1 hx).1;have hx3:x.length=3:=hxo;have hlen:4<st.mu.length:=(qk.1 k4).1;have hget:∀(c:Cell) (l:List Cell) (j:Nat),j<4->((st.mu.set 4 c)++l)[j]?=st.mu[j]?:=fun c l j hj=>by
     rw[qp (by simp;omega),qK (by omega)]
    have q2:=fun c l=>(hget c l 2 (by omega)).trans k2
    have q3:=fun c l=>(hget c l 3 (by omega)).trans k3
    obtain⟨x0,x1,x2,rfl⟩:∃ x0 x1 x2,x=[x0,x1,x2]:=by
     match x,hx3 with
     | [x0,x1,x2],_=>exact⟨_,_,_,rfl⟩
    simp[go_sem,e5,e6,e7,e25,k4,hi,hlen,hns,q3];refine OptK.intro _ (updT (t:=[x1,x0,0]) (q2 _ _) rfl h2) ?_;simp[go_sem];refine⟨i,hil,hns,by simp[go_sem,e5],by simp[go_sem,e6],by simp[go_sem,e7],by simp[go_sem,e25],ins l [x1,x0,0],?_,?_,?_,?_,?_,Zw h1,fun t ht=>?_,fun t=>?_⟩
    .simp only[qL]
     rw[qK (by omega),hget _ _ 0 (by omega),k0]
    .simp only[qL]
     rw[qK (by omega),hget _ _ 1 (by omega),k1]
    .simp only[qL]
     rw[zb (by simp;omega)]
    .simp only[qL]
     rw[qK (by omega),hget _ _ 3 (by omega),k3]
    .simp only[qL]
     rw[qK (by omega),qp (by simpa using hlen),zb hlen]
    .rcases vQ.1 ht with h|rfl
     .exact h2 t h
     .rfl
    .simp only[vQ,h3,UF hx]
     constructor
     .rintro (⟨y,h,e⟩|rfl)
      .exact ⟨y,.inl h,e⟩
      .exact ⟨[x0,x1,x2],.inr rfl,rfl⟩
     .rintro ⟨y,h|rfl,e⟩
      .exact .inl ⟨y,h,e⟩
      .exact .inr e.symm
   .obtain ⟨rest,hm⟩:=four k0 k1 k2 k3
    simp[go_sem,e5,e6,e7,e25,hm];refine Rd.aggs ⟨.hf _ (HF.sc _),Rd.setT (k:=(kTr a).ts) rfl h1 (ur (by simp)) (fun t=>?_),trivial⟩;refine(h3 t).trans (Iff.trans ?_ k5.symm);constructor
    .rintro ⟨y,h,e⟩;exact⟨y,(UG (by simpa using hall)).1 h,e⟩
    .rintro ⟨y,h,e⟩;exact⟨y,(UG (by simpa using hall)).2 h,e⟩
 .simp [go_sem]
  refine qb.pure (JW a ha) (.cons (.hf (zH _)) .nil) ?_;simp[go_sem];exact .hf _ (zH _)
 .simp [go_sem]
  refine qb.pure (JW a ha) (.cons (.hf (zH _)) .nil) ?_;simp[go_sem];refine qb.pure (Wd c hc 2 (by omega) (by omega)) (.cons (.hf (yV _)) (.cons (.hf (HF.sc _)) .nil)) ?_;simp[go_sem];refine qb.pure (sumU true (kClo a) (zn c.ts.sorts.length 2) (qeS ha).okK.len (qeR _ hns).okK.len) (.cons (.hf (zH _)) (.cons (.hf (Yq _ [_])) .nil)) ?_;simp[go_sem];exact .hf _ (zH _)
theorem hfK2(n:Int)(ts:List Tp):HF (.agg [aI n,mKd ts]):=zH ⟨n,ts⟩
theorem hfKn:HF (.agg [aI 0,.sc (.map none)]):=qeP none
theorem wkR(n:Nd)(b:Bool)(e:Int):WKs [aB b,aI e,eNd n] [aB b,aI e,eNd n] := .cons (.hf (HF.sc _)) (.cons (.hf (HF.sc _)) (.cons (.hf (qI n)) .nil))
structure ApOk (op:Int) (l:List (Option Kd)):Prop where
 one:op=5->∃ a,l=[a]
 bin:op=11\/op=12\/op=13->∃ a,l=[some a]/\okK a/\(a.ar=2->ok2 a)
 two:op=6\/op=14\/op=7\/op=8\/op=32\/op=33\/op=9\/op=10->∃ a b,l=[some a,some b]/\okK a/\okK b
theorem We{ns:Nat}{op n pos:Int}{l:List (Option Kd)}(h2:op≠2)(h3:op≠3)(h4:op≠4)(h5:op≠5)(b1:op≠11)(b2:op≠12)(b3:op≠13)(t1:op≠6)(t2:op≠14)(t3:op≠7)(t4:op≠8)(t5:op≠32)(t6:op≠33)(h9:op≠9)(h10:op≠10):yf ns op n pos l = .ok none:=by
 unfold yf;rw[if_neg h2,if_neg h3,if_neg h4];split
 .simp only[h5,b1,b2,b3,or_self,if_false]
  split<;>rfl
 .simp only[t1,t2,t3,t4,t5,t6,h9,h10,or_self,if_false]
 .rfl
theorem qeU(c:Ck)(hc:okCk c)(full:Bool)(n:Nd)(l:List (Option Kd))(hl:ApOk n.op l):qH qd 239 [eCk c,eNd n,.lst full (l.map cKo)] (endK (yf c.ts.sorts.length n.op n.n n.pos l)):=by
 refine qQ.of_sound ?_;refine qSW call239 func239 rfl {} ?_;by_cases ho:n.op=2\/n.op=3\/n.op=4\/n.op=5\/n.op=11\/n.op=12\/n.op=13\/n.op=6\/n.op=14\/n.op=7\/n.op=8\/n.op=32\/n.op=33\/n.op=9\/n.op=10
 case neg =>
  simp only[not_or]at ho;obtain⟨h2,h3,h4,h5,b1,b2,b3,t1,t2,t3,t4,t5,t6,h9,h10⟩:=ho;rw[We h2 h3 h4 h5 b1 b2 b3 t1 t2 t3 t4 t5 t6 h9 h10];simp[go_sem,h2,h3,h4,h5,b1,b2,b3,t1,t2,t3,t4,t5,t6,h9,h10];exact .hf _ hfKn
 unfold yf;by_cases h2:n.op=2
 .simp [go_sem,h2]
  refine qb.pure (KU n.n) (.cons (.hf (HF.sc _)) .nil) ?_;simp[go_sem];exact .hf _ (hfK2 _ _)
 by_cases h3:n.op=3
 .simp [go_sem,h3]
  refine qb.pure (Wd c hc 1 (by omega) (by omega)) (.cons (.hf (yV _)) (.cons (.hf (HF.sc _)) .nil)) ?_;simp[go_sem];exact .hf _ (zH _)
 by_cases h4:n.op=4
 .simp [go_sem,h4]
  refine qb.pure (Wd c hc 2 (by omega) (by omega)) (.cons (.hf (yV _)) (.cons (.hf (HF.sc _)) .nil)) ?_;simp[go_sem];exact .hf _ (zH _)
 by_cases h5:n.op=5
 .obtain ⟨a,rfl⟩:=hl.one h5
  cases a with
  |none=>simp[go_sem,h5];exact .hf _ hfKn
  |some a=>simp[go_sem,h5];exact .hf _ (hfK2 _ _)
 by_cases hb:n.op=11\/n.op=12\/n.op=13
 .obtain ⟨a,rfl,ha,ha2⟩:=hl.bin hb
  have hbi:=fun h=>qeT c hc n.op a (ha2 h) hb
  by_cases h2':a.ar=2
  .have hbi:=hbi h2'
   rcases hb with h|h|h<;>rw[h]at hbi
   all_goals
    simp[go_sem,h,h2'];refine qe.intro (by kernel_rfl) ?_;simp[go_sem,h,h2'];refine qb.pure (zN true 42 n).toP (wkR n true 42) ?_;simp[go_sem];refine qe.intro (by kernel_rfl) ?_;simp[go_sem,h];refine qb.pure hbi (.cons (.hf (yV _)) (.cons (.hf (HF.sc _)) (.cons (.hf (zH _)) .nil))) ?_;simp[go_sem];exact .hf _ (zH _)
  .rcases hb with h|h|h
   all_goals
    simp[go_sem,h,h2'];refine qe.tail 6 (by kernel_rfl) ?_;simp[go_sem,h,h2'];refine qb.pans (zN false 42 n) (wkR n false 42) ?_;simp[go_sem];exact .hf _ (ya _ _)
 by_cases ht:n.op=6\/n.op=14\/n.op=7\/n.op=8\/n.op=32\/n.op=33
 .obtain ⟨a,b,rfl,ha,hb'⟩:=hl.two (by omega)
  have hal:=qc3 n.op a b ha hb';simp only[not_or]at hb;by_cases h2':a.ar=b.ar
  .rcases ht with h|h|h|h|h|h<;>rw[h]at hal
   all_goals
    simp[go_sem,h,h2'];refine qe.intro (by kernel_rfl) ?_;simp[go_sem,h,h2'];refine qb.pure (zN true 42 n).toP (wkR n true 42) ?_;simp[go_sem];refine qe.intro (by kernel_rfl) ?_;simp[go_sem,h];refine qb.pure hal (.cons (.hf (HF.sc _)) (.cons (.hf (zH _)) (.cons (.hf (zH _)) .nil))) ?_;simp[go_sem];exact .hf _ (zH _)
  .rcases ht with h|h|h|h|h|h
   all_goals
    simp[go_sem,h,h2'];refine qe.tail 10 (by kernel_rfl) ?_;simp[go_sem,h,h2'];refine qb.pans (zN false 42 n) (wkR n false 42) ?_;simp[go_sem];exact .hf _ (ya _ _)
 simp only[not_or]at hb ht;by_cases h9:n.op=9
 .obtain ⟨a,b,rfl,ha,hb'⟩:=hl.two (by omega)
  have hj:=vT a b ha hb';have w1:qj.wrap (a.ar+b.ar)=a.ar+b.ar:=qg (by have:=ha.ar;have:=hb'.ar;omega) (by have:=ha.ar;have:=hb'.ar;omega);have w2:qj.wrap (a.ar+b.ar-2)=a.ar+b.ar-2:=qg (by have:=ha.ar;have:=hb'.ar;omega) (by have:=ha.ar;have:=hb'.ar;omega);simp[go_sem,h9];refine qe.intro (by kernel_rfl) ?_;by_cases hk1:1<=a.ar+b.ar-2
  .by_cases hk2:a.ar+b.ar-2<=3
   .simp [go_sem,h9,w1,w2,hk1,hk2]
    refine qb.pure (zN true 42 n).toP (wkR n true 42) ?_;simp[go_sem];refine qe.intro (by kernel_rfl) ?_;simp[go_sem,h9];refine qb.pure hj (.cons (.hf (zH _)) (.cons (.hf (zH _)) .nil)) ?_;simp[go_sem];exact .hf _ (zH _)
   .simp [go_sem,h9,w1,w2,hk1,hk2]
    refine qb.pans (zN false 42 n) (wkR n false 42) ?_;simp[go_sem];exact .hf _ (ya _ _)
  .simp [go_sem,h9,w1,w2,hk1]
   refine qb.pans (zN false 42 n) (wkR n false 42) ?_;simp[go_sem];exact .hf _ (ya _ _)
 by_cases h10:n.op=10
 .obtain ⟨a,b,rfl,ha,hb'⟩:=hl.two (by omega)
  have w1:qj.wrap (a.ar+b.ar)=a.ar+b.ar:=qg (by have:=ha.ar;have:=hb'.ar;omega) (by have:=ha.ar;have:=hb'.ar;omega);by_cases hk2:a.ar+b.ar<=3
  .have hj:=JV a b ha hb' hk2
   simp[go_sem,h10];refine qe.intro (by kernel_rfl) ?_;simp[go_sem,h10,w1,hk2];refine qb.pure (zN true 42 n).toP (wkR n true 42) ?_;simp[go_sem];refine qe.intro (by kernel_rfl) ?_;simp[go_sem,h10];refine qb.pure hj (.cons (.hf (zH _)) (.cons (.hf (zH _)) .nil)) ?_;simp[go_sem];exact .hf _ (zH _)
  .simp [go_sem,h10]
   refine qe.tail 11 (by kernel_rfl) ?_;simp[go_sem,h10,w1,hk2];refine qb.pans (zN false 42 n) (wkR n false 42) ?_;simp[go_sem];exact .hf _ (ya _ _)
 exact absurd ho (by omega)
end Y12
namespace P2
open Y1 Y2 Y3 P1 Y6 Y8 Y9 Y12
def kd(op:Int):Int:=if 1<=op/\op<=15 then 101 else if 20<=op/\op<=23 then 105 else if 30<=op/\op<=51 then 102 else 0
def shp(op:Int)(nk:Nat):Option (List Int):=
 if op=1\/op=2\/op=3\/op=4\/op=20\/op=30\/op=31 then some []
 else if op=5\/op=11\/op=12\/op=13\/op=21\/op=34\/op=35\/op=36\/op=37 then some [101]
 else if op=6\/op=7\/op=8\/op=9\/op=10\/op=14\/op=32\/op=33 then some [101,101]
 else if op=15\/op=45\/op=46 then some [101,102]
 else if op=22\/op=23\/op=38\/op=39 then some [105,105]
 else if op=40\/op=48\/op=49\/op=50 then some [102]
 else if op=41\/op=42\/op=43\/op=44\/op=51 then some [102,102]
 else if op=47 then some (qX (min nk 401) 101)
 else none
inductive WfN:Nd->Prop where
 |mk (n:Nd) (h:shp n.op n.kids.length=some (n.kids.map fun k=>kd k.op)) (hn:n.op=2->1<=n.n/\n.n<=3) (hk:∀ k,k∈n.kids->WfN k):WfN n
theorem WfN.shape{n:Nd}(h:WfN n):shp n.op n.kids.length=some (n.kids.map fun k=>kd k.op):=by cases h;assumption
theorem WfN.num{n:Nd}(h:WfN n):n.op=2->1<=n.n/\n.n<=3:=by cases h;assumption
theorem WfN.kid{n k:Nd}(h:WfN n)(hk:k∈n.kids):WfN k:=by
 cases h with
 |mk _ _ _ h=>exact h k hk
theorem k6{op:Int}{nk:Nat}{l:List Int}(h:shp op nk=some l):l.length<=401:=by
 unfold shp at h
 repeat' (split at h)
 all_goals try cases h
 all_goals try simp
 all_goals try omega
theorem WfN.len{n:Nd}(h:WfN n):n.kids.length<=401:=by
 have:=k6 h.shape;simpa using this
theorem WfN.small{n:Nd}(h:WfN n):Small n:=by
 induction h with
 |mk n hs hn hk ih=>exact .mk n (by have:=k6 hs;simp at this;omega) ih
structure okKd (ns:Nat) (k:Kd):Prop where
 ar:1<=k.ar/\k.ar<=3
 nd:k.ts.Nodup
 ts:∀ t,t∈k.ts->∃ l,t=pad l/\(l.length:Int)=k.ar/\∀ x,x∈l->0<=x/\x<ns
theorem okKd.okK{ns:Nat}{k:Kd}(h:okKd ns k):okK k:=⟨h.ar,fun t ht=>by obtain⟨l,rfl,_⟩:=h.ts t ht;rfl,h.nd⟩
theorem okKd.ok2{ns:Nat}{k:Kd}(h:okKd ns k)(hns:ns<=4)(h2:k.ar=2):ok2 k:=⟨h2,h.nd,fun t ht=>by
 obtain⟨l,rfl,hl,hr⟩:=h.ts t ht;rw[h2]at hl
 match l,hl with
 | [x,y],_ =>
  have h1:=hr x (by simp);have h2:=hr y (by simp);exact⟨x,y,rfl,by omega,by omega,by omega,by omega⟩⟩
theorem okKd.of2{ns:Nat}{k:Kd}(h2:k.ar=2)(hnd:k.ts.Nodup)(h:∀ t,t∈k.ts->∃ x y:Int,t=[x,y,0]/\0<=x/\x<ns/\0<=y/\y<ns):okKd ns k:=⟨by omega,hnd,fun t ht=>by
 obtain⟨x,y,rfl,h1,h3,h4,h5⟩:=h t ht;exact⟨[x,y],rfl,by rw[h2];rfl,fun z hz=>by simp at hz;rcases hz with rfl|rfl<;>omega⟩⟩
theorem okKd.pairs{ns:Nat}{k:Kd}(h:okKd ns k)(h2:k.ar=2):∀ t,t∈k.ts->∃ x y:Int,t=[x,y,0]/\0<=x/\x<ns/\0<=y/\y<ns:=fun t ht=>by
 obtain⟨l,rfl,hl,hr⟩:=h.ts t ht;rw[h2]at hl
 match l,hl with
 | [x,y],_ =>
  have h1:=hr x (by simp);have h2:=hr y (by simp);exact⟨x,y,rfl,h1.1,h1.2,h2.1,h2.2⟩
theorem Vf{ns:Nat}{l:List Int}(h1:1<=l.length)(h3:l.length<=3)(hr:∀ x,x∈l->0<=x/\x<ns):okKd ns (kOf l):=
 ⟨by simp only[kOf];omega,by simp[kOf],fun t ht=>by
  have ht:t∈[pad l]:=ht;rw[qW]at ht;exact⟨l,ht,rfl,hr⟩⟩
theorem qeV{ns:Nat}{n:Int}(h:1<=n/\n<=3):okKd ns ⟨n,[]⟩:=⟨h,by simp,fun t ht=>by simp at ht⟩
theorem Wf(ns ar:Nat)(h1:1<=ar)(h3:ar<=3):okKd ns (zn ns ar):=by
 refine⟨by simp only[zn];omega,?_,fun t ht=>?_⟩
 .refine List.pairwise_map.2 ((List.pairwise_iff_getElem.2 fun i j hi hj hij=>?_))
  simp only[List.getElem_range];obtain⟨a,rfl⟩:∃ a,ar=a+1:=⟨ar-1,by omega⟩;intro e;simp[pad,List.replicate_succ]at e;omega
 .have ht:t∈(qq ns).map fun (i:Nat)=>pad (qX ar (i:Int)):=ht
  obtain⟨i,hi,rfl⟩:=qs.1 ht;rw[zI]at hi;exact⟨_,rfl,by simp[zn],fun x hx=>by rw[List.eq_of_mem_replicate hx];omega⟩
theorem Yy{ns:Nat}{a b:Kd}(ha:okKd ns a)(hb:okKd ns b)(h:a.ar=b.ar):okKd ns (kSum a b):=by
 refine⟨ha.ar,ur (ur (by simp)),fun t ht=>?_⟩;have ht:t∈uni (uni [] a.ts) b.ts:=ht;simp only[ve,zr,false_or]at ht;rcases ht with ht|ht
 .exact ha.ts t ht
 .obtain ⟨l,e,hl,hr⟩:=hb.ts t ht
  exact⟨l,e,by rw[hl,<-h];rfl,hr⟩
theorem qeW{ns:Nat}{a b:Kd}(ha:okKd ns a):okKd ns (Uy a b):=
 ⟨ha.ar,ha.nd.filter _,fun t ht=>ha.ts t (vn.1 ht).1⟩
theorem qeX{ns:Nat}{op:Int}{a b:Kd}(ha:okKd ns a)(hb:okKd ns b)(h:a.ar=b.ar):okKd ns (uX op a b):=by
 unfold uX;split
 .exact Yy ha hb h
 .split
  .exact qeW ha
  .exact ha
theorem wK{l:List Int}(h:l.length<=3)(k:Nat)(hk:k<=l.length):(pad l).take k=l.take k:=by
 match l,h with
 | [],_=>simp at hk;subst hk;rfl
 | [a],_=>match k,hk with
  | 0,_=>rfl
  | 1,_=>rfl
 | [a,b],_=>match k,hk with
  | 0,_=>rfl
  | 1,_=>rfl
  | 2,_=>rfl
 | [a,b,c],_=>match k,hk with
  | 0,_=>rfl
  | 1,_=>rfl
  | 2,_=>rfl
  | 3,_=>rfl
theorem Yz{lx ly:List Int}(hx:lx.length<=3)(hy:ly.length<=3)(s:Nat):conc (pad lx) lx.length (pad ly) ly.length s=pad (lx.take (lx.length-s)++ly.drop s):=by
 unfold conc;rw[wK hx _ (by omega),wK hy _ (qr _),zw]
theorem YI{ns:Nat}{a b:Kd}(ha:okKd ns a)(hb:okKd ns b)(h1:1<=a.ar+b.ar-2)(h3:a.ar+b.ar-2<=3):okKd ns (zA a b):=by
 refine⟨⟨h1,h3⟩,UE,fun t ht=>?_⟩;obtain⟨x,y,⟨hx,hy⟩,hf⟩:=uY.1 ht;obtain⟨lx,rfl,hlx,hrx⟩:=ha.ts x hx;obtain⟨ly,rfl,hly,hry⟩:=hb.ts y hy;have hax:=ha.ar;have hbx:=hb.ar;unfold Qk at hf;split at hf
 .simp only[qn]at hf
  rw[show a.ar.toNat=lx.length by omega,show b.ar.toNat=ly.length by omega,Yz (by omega) (by omega)]at hf;refine⟨_,hf.symm,?_,fun z hz=>?_⟩
  .show ((lx.take (lx.length-1)++ly.drop 1).length:Int)=a.ar+b.ar-2
   simp only[zt,jZ,List.length_drop];omega
  .rcases qT.1 hz with hz|hz
   .exact hrx z (jV hz)
   .exact hry z (List.mem_of_mem_drop hz)
 .exact absurd hf (by simp)
theorem qeY{ns:Nat}{a b:Kd}(ha:okKd ns a)(hb:okKd ns b)(h3:a.ar+b.ar<=3):okKd ns (Qh a b):=by
 have hax:=ha.ar;have hbx:=hb.ar;refine⟨⟨by simp only[Qh];omega,h3⟩,K6,fun t ht=>?_⟩;obtain⟨x,y,⟨hx,hy⟩,hf⟩:=JU.1 ht;obtain⟨lx,rfl,hlx,hrx⟩:=ha.ts x hx;obtain⟨ly,rfl,hly,hry⟩:=hb.ts y hy;unfold uZ at hf;simp only[qn]at hf;rw[show a.ar.toNat=lx.length by omega,show b.ar.toNat=ly.length by omega,Yz (by omega) (by omega)]at hf;refine⟨_,hf.symm,?_,fun z hz=>?_⟩
 .show ((lx.take (lx.length-0)++ly.drop 0).length:Int)=a.ar+b.ar
  simp only[zt,jZ,List.length_drop];omega
 .rcases qT.1 hz with hz|hz
  .exact hrx z (jV hz)
  .exact hry z (List.mem_of_mem_drop hz)
theorem qeZ{ns:Nat}{a:Kd}(ha:okKd ns a)(h2:a.ar=2):okKd ns (kTr a):=by
 refine okKd.of2 rfl (ur (by simp)) (fun t ht=>?_);obtain⟨x,hx,rfl⟩:=k5.1 ht;obtain⟨p,q,rfl,h1,h3,h4,h5⟩:=ha.pairs h2 x hx;exact⟨q,p,rfl,h4,h5,h1,h3⟩
theorem Vg{ns:Nat}{a:Kd}(ha:okKd ns a)(h2:a.ar=2):okKd ns (kClo a)/\(kClo a).ar=2:=by
 have:∀(f n:Nat) (a:Kd),okKd ns a->a.ar=2->okKd ns (cloN f n a)/\(cloN f n a).ar=2:=by
  intro f;induction f with
  |zero=>intro n a h h2;exact⟨h,h2⟩
  |succ f ih =>
   intro n a h h2;unfold cloN;split
   .exact ih _ _ (Yy h (YI h h (by omega) (by omega)) (by simp only[zA];omega)) h2
   .exact ⟨h,h2⟩
 exact this 70 0 a ha h2
theorem qe0{ns:Nat}{op:Int}{a:Kd}(ha:okKd ns a)(h2:a.ar=2):okKd ns (binK ns op a):=by
 unfold binK;split
 .exact (Vg ha h2).1
 .split
  .exact Yy (Vg ha h2).1 (Wf ns 2 (by omega) (by omega)) (by rw[(Vg ha h2).2];rfl)
  .exact qeZ ha h2
def ScOk(ns:Nat)(s:Scp):Prop:=∀ v,v∈s->okKd ns v.2/\v.2.ar=1
theorem k7{nm:ByteArray}:∀{s:Scp} {v:ByteArray×Kd} {r:Scp},yT nm s=v :: r->v∈s
 | [],v,r,h=>by simp[yT]at h
 |w :: s,v,r,h=>by
  unfold yT at h;split at h
  .cases h;exact zZ
  .exact zK _ (k7 h)
theorem qe1{ts:TS}(h:okTS ts){nm:ByteArray}{k:Kd}(hk:k∈jN ts nm):okKd ts.sorts.length k:=by
 unfold jN at hk;rcases qT.1 hk with hk|hk
 .unfold yu at hk
  obtain⟨f,hf,e⟩:=List.mem_filterMap.1 hk;split at e
  .cases e
   have:=h.fl f hf;exact Vf this.1 this.2.1 this.2.2
  .exact absurd e (by simp)
 .have:∀(so:List (ByteArray×Bool)) (i:Nat),i+so.length<=ts.sorts.length->∀ k,k∈yv i so nm->okKd ts.sorts.length k:=by
   intro so;induction so with
   |nil=>intro i _ k hk;simp[yv]at hk
   |cons s so ih =>
    intro i hi k hk;simp only[z6]at hi;have h1:okKd ts.sorts.length (kOf [(i:Int)]):=Vf (by simp) (by simp) (fun x hx=>by simp at hx;subst hx;omega);have h2:okKd ts.sorts.length (kOf [(i:Int),(i:Int)]):=Vf (by simp) (by simp) (fun x hx=>by simp at hx;subst hx;omega);simp only[yv,uu,qT]at hk;rcases hk with (hk|hk|hk)|hk
    .split at hk<;>simp at hk;subst hk;exact h1
    .split at hk<;>simp at hk;subst hk;exact h1
    .split at hk<;>simp at hk;subst hk;exact h2
    .exact ih (i+1) (by omega) k hk
  exact this ts.sorts 0 (by omega) k hk
theorem vD(c:Ck)(s:Scp)(inn:Bool)(n:Nd):exam c s inn n =
  if (inn&&yw c n.op n.name)=true then .error (46,n.pos)
  else if n.op=1 then yU c s n.name n.pos
  else if n.op=47 then
   if (c.ts.preds.any fun p=>decide (p.name=n.name))=true then
    match zD c n.name with
    |none => .error (45,n.pos)
    |some p=>match c.ts.preds[p]? with
     |none => .error (45,n.pos)
     |some pd=>if pd.params.length=n.kids.length then zP c s n.pos pd.params n.kids else .error (45,n.pos)
   else .error (40,n.pos)
  else if n.op=15\/n.op=45\/n.op=46 then yG c s (inn||decide (n.op=15)) n.name n.pos n.kids
  else match zo c s (inn||decide (n.op=12)||decide (n.op=13)) n.kids with
   | .error e => .error e
   | .ok l=>yf c.ts.sorts.length n.op n.n n.pos l:=by
 obtain⟨op,nm,k,ks,pos⟩:=n;simp only[exam,Nd.op,Nd.name,Nd.n,Nd.kids,Nd.pos];rfl
theorem Vh{c:Ck}{s:Scp}{inn:Bool}:∀{ks:List Nd} {l:List (Option Kd)},zo c s inn ks = .ok l->l.length=ks.length/\∀(i:Nat) k a,ks[i]?=some k->l[i]?=some a->exam c s inn k = .ok a
 | [],l,h=>by simp only[zo,vq]at h;subst h;simp
 |k :: ks,l,h=>by
  simp only[zo]at h;cases hk:exam c s inn k with
  |error e=>rw[hk]at h;exact absurd h (by simp)
  |ok a =>
   rw[hk]at h;simp only at h;cases hl:zo c s inn ks with
   |error e=>rw[hl]at h;exact absurd h (by simp)
   |ok r =>
    rw[hl]at h;simp only[vq]at h;subst h;obtain⟨h1,h2⟩:=Vh hl;refine⟨by simp[h1],fun i k' a' hi ha=>?_⟩;cases i with
    |zero=>simp at hi ha;subst hi;subst ha;exact hk
    |succ i=>exact h2 i k' a' (by simpa using hi) (by simpa using ha)
theorem Wg{op:Int}(h:kd op=101):1<=op/\op<=15:=by
 unfold kd at h;split at h
 .assumption
 .split at h
  .exact absurd h (by omega)
  .split at h<;>exact absurd h (by omega)
theorem Wh{ns:Nat}(hns:ns<=4){n:Nd}(hw:WfN n){l:List (Option Kd)}(hl:l.length=n.kids.length)(h:∀(i:Nat) k a,n.kids[i]?=some k->l[i]?=some a->kd k.op=101->∃ q,a=some q/\okKd ns q) :
  ApOk n.op l/\(n.op=5->∃ a,l=[some a]/\okKd ns a)/\(n.op=11\/n.op=12\/n.op=13->∃ a,l=[some a]/\okKd ns a)/\(n.op=6\/n.op=14\/n.op=7\/n.op=8\/n.op=32\/n.op=33\/n.op=9\/n.op=10->∃ a b,l=[some a,some b]/\okKd ns a/\okKd ns b):=by
 have hs:=hw.shape;have h1:n.op=5\/n.op=11\/n.op=12\/n.op=13->∃ a,l=[some a]/\okKd ns a:=by
  intro ho;have e:shp n.op n.kids.length=some [101]:=by
   unfold shp;rw[if_neg (by omega),if_pos (by omega)]
  rw[e]at hs;simp only[qn]at hs
  match hk:n.kids,hs with
  | [k],hs =>
   simp at hs;rw[hk]at hl
   match l,hl with
   | [a],_ =>
    obtain⟨q,rfl,hq⟩:=h 0 k a (by rw[hk];rfl) rfl hs.symm;exact⟨q,rfl,hq⟩
  | [],hs=>simp at hs
  |_ :: _ :: _,hs=>simp at hs
 have h2:n.op=6\/n.op=14\/n.op=7\/n.op=8\/n.op=32\/n.op=33\/n.op=9\/n.op=10->∃ a b,l=[some a,some b]/\okKd ns a/\okKd ns b:=by
  intro ho;have e:shp n.op n.kids.length=some [101,101]:=by
   unfold shp;rw[if_neg (by omega),if_neg (by omega),if_pos (by omega)]
  rw[e]at hs;simp only[qn]at hs
  match hk:n.kids,hs with
  | [k,k'],hs =>
   simp at hs;rw[hk]at hl
   match l,hl with
   | [a,b],_ =>
    obtain⟨q,rfl,hq⟩:=h 0 k a (by rw[hk];rfl) rfl hs.1.symm;obtain⟨q',rfl,hq'⟩:=h 1 k' b (by rw[hk];rfl) rfl hs.2.symm;exact⟨q,q',rfl,hq,hq'⟩
  | [],hs=>simp at hs
  | [_],hs=>simp at hs
  |_ :: _ :: _ :: _,hs=>simp at hs
 refine⟨⟨fun ho=>?_,fun ho=>?_,fun ho=>?_⟩,fun ho=>h1 (.inl ho),fun ho=>h1 (.inr ho),h2⟩
 .obtain ⟨a,rfl,_⟩:=h1 (.inl ho);exact⟨_,rfl⟩
 .obtain ⟨a,rfl,ha⟩:=h1 (.inr ho);exact⟨a,rfl,ha.okK,ha.ok2 hns⟩
 .obtain ⟨a,b,rfl,ha,hb⟩:=h2 ho;exact⟨a,b,rfl,ha.okK,hb.okK⟩
theorem u6{c:Ck}(hc:okCk c):∀(m:Nat) (n:Nd) (s:Scp) (inn:Bool) (ko:Option Kd),szN n<=m->WfN n->ScOk c.ts.sorts.length s->exam c s inn n = .ok ko->kd n.op=101->∃ k,ko=some k/\okKd c.ts.sorts.length k
 | 0,n,_,_,_,hm,_,_,_,_=>by obtain⟨op,nm,i,ks,p⟩:=n;simp[szN]at hm
 |m+1,n,s,inn,ko,hm,hw,hs,h,hop=>by
  have ho:=Wg hop;have hns:=hc.ts.ns;rw[vD]at h;split at h
  .exact absurd h (by simp)
  split at h
  .unfold yU at h
   split at h
   .rename_i v r hf
    simp only[vq]at h;exact⟨v.2,h.symm,(hs v (k7 hf)).1⟩
   .split at h
    .exact absurd h (by simp)
    .rename_i k hk
     simp only[vq]at h;exact⟨k,h.symm,qe1 hc.ts (by rw[hk];simp)⟩
    .exact absurd h (by simp)
  split at h
  .omega
  split at h
  .rename_i hb
   have hsh:=hw.shape;have e:shp n.op n.kids.length=some [101,102]:=by
    unfold shp;rw[if_neg (by omega),if_neg (by omega),if_neg (by omega),if_pos (by omega)]
   rw[e]at hsh;simp only[qn]at hsh
   match hk:n.kids,hsh with
   | [a,f],hsh =>
    simp at hsh;rw[hk]at h;simp only[yG]at h;cases hq:exam c s (inn||decide (n.op=15)) a with
    |error e=>rw[hq]at h;exact absurd h (by simp)
    |ok q =>
     obtain⟨k,rfl,hkk⟩:=u6 hc m a s _ q (by have:=yi (n:=n) (k:=a) (by rw[hk];simp);omega) (hw.kid (by rw[hk];simp)) hs hq hsh.1.symm;rw[hq]at h;simp only at h;split at h
     .split at h
      .exact absurd h (by simp)
      .simp only[vq]at h
       exact⟨k,h.symm,hkk⟩
     .exact absurd h (by simp)
   | [],hsh=>simp at hsh
   | [_],hsh=>simp at hsh
   |_ :: _ :: _ :: _,hsh=>simp at hsh
  .rename_i n1 n47 nb
   cases hl:zo c s (inn||decide (n.op=12)||decide (n.op=13)) n.kids with
   |error e=>rw[hl]at h;exact absurd h (by simp)
   |ok l =>
    rw[hl]at h;simp only at h;obtain⟨hlen,hex⟩:=Vh hl;obtain⟨_,a5,a1,a2⟩:=Wh (ns:=c.ts.sorts.length) hns hw hlen (fun i k a hi ha hkd=>u6 hc m k s _ a (by have:=yi (n:=n) (qS hi);omega) (hw.kid (qS hi)) hs (hex i k a hi ha) hkd);unfold yf at h;split at h
    .rename_i h2
     simp only[vq]at h;exact⟨_,h.symm,qeV (hw.num h2)⟩
    split at h
    .simp only[vq]at h
     exact⟨_,h.symm,Wf _ 1 (by omega) (by omega)⟩
    split at h
    .simp only[vq]at h
     exact⟨_,h.symm,Wf _ 2 (by omega) (by omega)⟩
    have hcase:n.op=5\/(n.op=11\/n.op=12\/n.op=13)\/(n.op=6\/n.op=14\/n.op=7\/n.op=8\/n.op=32\/n.op=33\/n.op=9\/n.op=10):=by omega
    rcases hcase with h5|h1|h2
    .obtain ⟨a,rfl,ha⟩:=a5 h5
     simp only[if_pos h5,vq]at h;exact⟨a,h.symm,ha⟩
    .obtain ⟨a,rfl,ha⟩:=a1 h1
     have n5:n.op≠5:=by omega
     simp only[if_neg n5,if_pos h1]at h;split at h
     .simp only[vq]at h
      exact⟨_,h.symm,qe0 ha (by assumption)⟩
     .exact absurd h (by simp)
    .obtain ⟨a,b,rfl,ha,hb⟩:=a2 h2
     simp only at h;split at h
     .split at h
      .simp only[vq]at h
       exact⟨_,h.symm,qeX ha hb (by assumption)⟩
      .exact absurd h (by simp)
     .split at h
      .split at h
       .rename_i hj
        simp only[vq]at h;exact⟨_,h.symm,YI ha hb hj.1 hj.2⟩
       .exact absurd h (by simp)
      .split at h
       .split at h
        .simp only[vq]at h
         exact⟨_,h.symm,qeY ha hb (by assumption)⟩
        .exact absurd h (by simp)
       .omega
end P2
end Go.Proofs.YtkglmpmlfjogkaaGreatDoor
