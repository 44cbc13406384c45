/-
  Own library, part 4: an abstract reading of values and a calculus over it; contracts of functions; plain lemmas.
-/
import Derived.Shelf.Small.Bits
import Derived.Shelf.Strconv.Itoa0
import Derived.Shelf.Strconv.Itoa1
import Derived.Shelf.LaysM
import Derived.Shelf.Strconv.Itoa2
import Derived.Shelf.Strconv.Itoa3
import Derived.Shelf.Sort.Plain
import Derived.Shelf.Bits.Mul64
import Derived.Ground.Names2Prog
import Derived.Shelf.Slices.SearchI
import Derived.Shelf.Slices.In.SortNone
import Derived.Test.YtkglmpmlfjogkaaGreatDoorProg
import Derived.Test.YtkglmpmlfjogkaaGreatDoorMc
set_option linter.unusedVariables false
set_option linter.unusedSimpArgs false
set_option maxRecDepth 100000
open Go.Proofs.Tryz renaming prog->qc
open List renaming getElem?_eq_some_iff->qk,mem_map->qq,getElem?_append_left->qr,range->qu,getElem?_eq_getElem->qv,getElem_mem->qw,mem_cons->qz,all_eq_true->qC,getElem?_set_ne->qK,mem_of_getElem?->qS,mem_append->qU,replicate->qW,mem_singleton->qY,getElem?_append_right->q6,getElem?_set_self->za,drop_eq_getElem_cons->zi,getElem?_map->zj,not_mem_nil->zk,append_nil->zl,length_append->zr,map_append->zt,take_length->zw,append_assoc->zx,mem_cons_of_mem->zD,drop_length->zN,length_cons->zO,getElem?_eq_none->zQ,mem_range->zS,mem_cons_self->zW,take_of_length_le->zX,map_cons->yz,length_map->yO,mem_append_left->yP,getElem?_take->yW,getElem?_drop->yX,cons_append->yY,nil_append->yZ,ext_getElem?->jr,nodup_append->jU,mem_filter->vd,take_append_drop->vh,length_take->vo,pairwise_cons->vG,getElem?_range->vY,foldl_append->wK,mem_iff_getElem->ZK,flatMap_cons->ZM,mem_flatMap->ZN
open Go.IntKind renaming i64->ql
open Option.some renaming injEq->qp
open Nat renaming le_refl->qs,le_trans->zz,zero_add->yE,le_of_ble_eq_true->jg,lt_succ_iff_lt_or_eq->vj
open Option renaming map_some->q8,map_eq_some_iff->ve
open Bool renaming eq_iff_iff->ji
open Int renaming mul_le_mul->jt,tmod_eq_emod_of_nonneg->uA
open List.Nodup renaming length_le_of_subset->jF
open List.cons renaming injEq->jV
namespace Go.Proofs
open Go.Shelf
def Tryz.lays189_ren:Go.Shelf.Ren:=⟨fun|189=>142|125=>193|257=>192|128=>223|129=>224|294=>214|295=>215|296=>216|297=>217|298=>218|299=>219|216=>220|300=>221|301=>222|328=>242|329=>243|330=>244|331=>245|332=>246|215=>247|343=>267|n=>n,fun|28=>28|3=>3|46=>228|0=>0|51=>269|53=>271|4=>4|183=>261|182=>260|131=>266|5=>5|9=>9|218=>288|222=>292|228=>308|229=>309|n=>n,fun|n=>n⟩
theorem Tryz.lays189:Go.Proofs.Lays.n189 qc Tryz.lays189_ren:={
 mixed:=by kernel_rfl
 f125:=func193.trans (congrArg some (by kernel_rfl))
 f128:=func223.trans (congrArg some (by kernel_rfl))
 f129:=func224.trans (congrArg some (by kernel_rfl))
 f189:=func142.trans (congrArg some (by kernel_rfl))
 f215:=func247.trans (congrArg some (by kernel_rfl))
 f216:=func220.trans (congrArg some (by kernel_rfl))
 f257:=func192.trans (congrArg some (by kernel_rfl))
 f294:=func214.trans (congrArg some (by kernel_rfl))
 f295:=func215.trans (congrArg some (by kernel_rfl))
 f296:=func216.trans (congrArg some (by kernel_rfl))
 f297:=func217.trans (congrArg some (by kernel_rfl))
 f298:=func218.trans (congrArg some (by kernel_rfl))
 f299:=func219.trans (congrArg some (by kernel_rfl))
 f300:=func221.trans (congrArg some (by kernel_rfl))
 f301:=func222.trans (congrArg some (by kernel_rfl))
 f328:=func242.trans (congrArg some (by kernel_rfl))
 f329:=func243.trans (congrArg some (by kernel_rfl))
 f330:=func244.trans (congrArg some (by kernel_rfl))
 f331:=func245.trans (congrArg some (by kernel_rfl))
 f332:=func246.trans (congrArg some (by kernel_rfl))
 f343:=func267.trans (congrArg some (by kernel_rfl))
 t0:=Tryz.underlying0
 a0:=Tryz.isAgg0
 z0:=Tryz.sizeOf0
 v0:=Tryz.zeroValue0
 t3:=Tryz.underlying3
 a3:=Tryz.isAgg3
 z3:=Tryz.sizeOf3
 v3:=Tryz.zeroValue3
 t4:=Tryz.underlying4
 a4:=Tryz.isAgg4
 z4:=Tryz.sizeOf4
 v4:=Tryz.zeroValue4
 t5:=Tryz.underlying5
 a5:=Tryz.isAgg5
 z5:=Tryz.sizeOf5
 v5:=Tryz.zeroValue5
 t9:=Tryz.underlying9
 a9:=Tryz.isAgg9
 z9:=Tryz.sizeOf9
 v9:=Tryz.zeroValue9
 t28:=Tryz.underlying28
 a28:=Tryz.isAgg28
 z28:=Tryz.sizeOf28
 v28:=Tryz.zeroValue28
 t46:=Tryz.underlying228
 a46:=Tryz.isAgg228
 z46:=Tryz.sizeOf228
 v46:=Tryz.zeroValue228
 t51:=Tryz.underlying269
 a51:=Tryz.isAgg269
 z51:=Tryz.sizeOf269
 v51:=Tryz.zeroValue269
 t53:=Tryz.underlying271
 a53:=Tryz.isAgg271
 z53:=Tryz.sizeOf271
 v53:=Tryz.zeroValue271
 t131:=Tryz.underlying266
 a131:=Tryz.isAgg266
 z131:=Tryz.sizeOf266
 v131:=Tryz.zeroValue266
 t182:=Tryz.underlying260
 a182:=Tryz.isAgg260
 z182:=Tryz.sizeOf260
 v182:=Tryz.zeroValue260
 t183:=Tryz.underlying261
 a183:=Tryz.isAgg261
 z183:=Tryz.sizeOf261
 v183:=Tryz.zeroValue261
 t218:=Tryz.underlying288
 a218:=Tryz.isAgg288
 z218:=Tryz.sizeOf288
 v218:=Tryz.zeroValue288
 t222:=Tryz.underlying292
 a222:=Tryz.isAgg292
 z222:=Tryz.sizeOf292
 v222:=Tryz.zeroValue292
 t228:=Tryz.underlying308
 a228:=Tryz.isAgg308
 z228:=Tryz.sizeOf308
 v228:=Tryz.zeroValue308
 t229:=Tryz.underlying309
 a229:=Tryz.isAgg309
 z229:=Tryz.sizeOf309
 v229:=Tryz.zeroValue309 }
open Go.Sort Go.RowKit in
theorem Tryz.slices_Sort_int(blk off cap:Nat)(zs:List Int)(w:World)(hH:Holds (Value.int .i64) w blk off zs.toArray)(hblk:blk<w.heap.size)(hsz:zs.length<4611686018427387904) :
  Calls qc 142 #[.slice (some ⟨blk,off,none⟩) zs.length cap] w fun e w' =>
   e = .returned (.tuple #[])/\∃ n os,w'=grow (putRow (Value.int .i64) (Sort.ahead w n) blk off (zs.mergeSort fun x y=>decide (x<=y)).toArray) os:=Any.slices_Sort_int Tryz.lays189 blk off cap zs w hH hblk hsz
def Tryz.lays212_ren:Go.Shelf.Ren:=⟨fun|212=>278|263=>284|264=>285|n=>n,fun|46=>228|51=>269|146=>325|53=>271|148=>327|n=>n,fun|n=>n⟩
theorem Tryz.lays212:Go.Proofs.Lays.n212 qc Tryz.lays212_ren:={
 mixed:=by kernel_rfl
 f212:=func278.trans (congrArg some (by kernel_rfl))
 f263:=func284.trans (congrArg some (by kernel_rfl))
 f264:=func285.trans (congrArg some (by kernel_rfl))
 t46:=Tryz.underlying228
 a46:=Tryz.isAgg228
 z46:=Tryz.sizeOf228
 v46:=Tryz.zeroValue228
 t51:=Tryz.underlying269
 a51:=Tryz.isAgg269
 z51:=Tryz.sizeOf269
 v51:=Tryz.zeroValue269
 t53:=Tryz.underlying271
 a53:=Tryz.isAgg271
 z53:=Tryz.sizeOf271
 v53:=Tryz.zeroValue271
 t146:=Tryz.underlying325
 a146:=Tryz.isAgg325
 z146:=Tryz.sizeOf325
 v146:=Tryz.zeroValue325
 t148:=Tryz.underlying327
 a148:=Tryz.isAgg327
 z148:=Tryz.sizeOf327
 v148:=Tryz.zeroValue327 }
open Go.RowKit Go.Lib in
theorem Tryz.bits_Mul(x y:Nat)(hx:x<18446744073709551616)(hy:y<18446744073709551616)(w:World) :
  Calls qc 278 #[.int .u64 x,.int .u64 y] w fun e w'=>e = .returned (.tuple #[.int .u64 ((x*y / 18446744073709551616:Nat):Int),.int .u64 ((x*y % 18446744073709551616:Nat):Int)])/\w'=w:=Any.bits_Mul Tryz.lays212 x y hx hy w
open Go.RowKit Go.Sort in
theorem Tryz.slices_Sort_int_none(p:Option Addr)(cap:Nat)(w:World) :
  Calls qc 142 #[.slice p 0 cap] w fun e w'=>e = .returned (.tuple #[])/\w'=w:=Any.slices_Sort_int_none Tryz.lays189 p cap w
end Go.Proofs
namespace Go.Proofs.YtkglmpmlfjogkaaGreatDoor
open Go Go.Ev Go.Proofs Tryz
namespace YS
theorem JM(xs:List Int):(xs.map rI).flatten=xs.map aI:=by
 induction xs with
 |nil=>rfl
 |cons x xs ih=>simp[ih]
theorem qcE{lo b n:Nat}{mu:Mu}{xs:List Int}(hb:lo<=b)(hc:mu[b]?=some (.arr (xs.map aI)))(hn:xs.length=n):OwnF lo mu 1 (.sl b 1 0 n) (xs.map rI):=by
 have hl:b<mu.length:=(qk.1 hc).1;refine⟨.inr ⟨b,by simp[hn],by rw[hc,JM]⟩,fun b' s o l e=>?_,by omega⟩;injection e;omega
theorem gPow : qc.globalNamed "internal/strconv.uint64pow10" = some 0 := by kernel_rfl
def itoaB(n:Int):ByteArray:=⟨(Lib.itoa n).toArray⟩
theorem mulB(x y:Nat)(hx:x<18446744073709551616)(hy:y<18446744073709551616) :
  qj qc 278 [.sc (.int .u64 x),.sc (.int .u64 y)] (.tup [.sc (.int .u64 ((x*y / 18446744073709551616:Nat):Int)),.sc (.int .u64 ((x*y % 18446744073709551616:Nat):Int))]):=
 qj.of_still call278 (fun G h us r=>qcC r) (fun w=>Tryz.bits_Mul x y hx hy w) fun G h => .tup _ _ rfl fun k z hk=>by
  match k with
  | 0=>simp at hk;subst hk;exact .sc _ rfl
  | 1=>simp at hk;subst hk;exact .sc _ rfl
  |k+2=>simp at hk
theorem K0{n:Int}(h0:0<=n)(h1:n<=18446744073709551615):IntKind.u64.wrap n=n:=IntWalk.u64_in n ⟨h0,h1⟩
theorem qcF{mu:Mu}{b off len:Nat}{cells:List AV}(hc:mu[b]?=some (.arr cells))(hl:off+len<=cells.length):qI mu (.sl b 1 off len)=some (((cells.drop off).take len).map fun c=>[c]):=by
 simp only[qI,hc];rw[if_pos (by omega)];congr 1;apply jr;intro i;by_cases hi:i<len
 .simp only[zj,vY hi,q8,Nat.mul_one]
  rw[yW,if_pos hi,yX,qv (show off+i<cells.length by omega)];rw[zi (show off+i<cells.length by omega)];rfl
 .rw [zQ (by simp;omega),zQ (by simp;omega)]
theorem qcG(l:List AV):(l.map fun c=>[c]).flatten=l:=by
 induction l with
 |nil=>rfl
 |cons x l ih=>simp only[yz,List.flatten_cons,ih];rfl
theorem qcH{l:List AV}(h:∀ c,c∈l->c.one=true):zm 1 (l.map fun c=>[c]):=fun r hr=>by
 obtain⟨c,hc,rfl⟩:=qq.1 hr;exact⟨rfl,by simp[h c hc]⟩
def rep(s:Int)(k m:Nat):List AV:=qW m (aI s)++qW (k-m) (aI 0)
theorem UL(s:Int)(k m:Nat)(h:m<=k):(rep s k m).length=k:=by simp[rep];omega
theorem K1(s:Int)(k m j:Nat)(h:j<=m):(rep s k m).take j=qW j (aI s):=by
 rw[rep,List.take_append_of_le_length (by simpa using h),List.take_replicate,Nat.min_eq_left h]
theorem K2(s:Int)(k m j:Nat)(hm:m<=k)(h:m+j<=k):putCells (rep s k m) m (qW j (aI s))=rep s k (m+j):=by
 rw[y5 _ _ _ (by rw[UL _ _ _ hm];simpa using h)];rw[K1 _ _ _ _ (qs m),List.replicate_append_replicate];have:List.drop (m+(qW j (aI s)).length) (rep s k m)=qW (k-(m+j)) (aI 0):=by
  rw[rep,List.length_replicate,List.drop_append,List.drop_of_length_le (by simp),yZ,List.length_replicate,List.drop_replicate];congr 1;omega
 rw[this];rfl
theorem qcI(s:Int)(k:Nat)(hk:k<=5):qj qc 271 [lI [s],aI k] (lI (qW k s)):=by
 refine qSQ call271 func271 rfl {} ?_;have w1:IntKind.u64.wrap (k:Int)=k:=K0 (by omega) (by omega);have w2:IntKind.u64.wrap 1=1:=K0 (by omega) (by omega);have w3:ql.wrap (k:Int)=k:=qi (by omega) (by omega);simp[go_sem,show ¬(k:Int)<0 by omega,w1,w2];refine qe.pure (mulB 1 k (by omega) (by omega)) (.cons (.hf (HF.sc _)) (.cons (.hf (HF.sc _)) .nil)) ?_;rw[show 1*k / 18446744073709551616=0 by omega,show 1*k % 18446744073709551616=k by omega];simp[go_sem,show ¬(9223372036854775807:Int)<k by omega,w3,show (k:Int)<=4294967296 by omega];refine Uv (ys:=[[aI s]]) (by simp[go_sem]) rfl (by simp) rfl (uO [s]) ?_;have e0:putCells (qW k (aI 0)) 0 (([[aI s]]:List (List AV)).take k).flatten=rep s k (min 1 k):=by
  have:=K2 s k 0 (min 1 k) (by omega) (by omega);rw[yE]at this;rw[<-this];cases k with
  |zero=>rfl
  |succ k=>rw[show min 1 (k+1)=1 by omega];simp[rep]
 simp only[e0];simp[go_sem];refine qn.keep (fun n st=>∃ m,n=k-m/\m<=k/\(k=m\/1<=m)/\st.tm 7 = .sl 0 1 0 k/\st.tm 8=aI m/\st.mu=[.arr (rep s k m)]) (k-min 1 k) ?_ ?_
 .exact ⟨min 1 k,rfl,by omega,by omega,by simp[go_sem],by simp[go_sem],by simp[go_sem]⟩
 rintro n st ⟨m,rfl,hm,hm1,e7,e8,em⟩;by_cases hlt:m<k
 .have hc:qI [.arr (rep s k m)] (.sl 0 1 0 m)=some ((qW m (aI s)).map fun c=>[c]):=by
   rw[qcF (cells:=rep s k m) rfl (by rw[UL _ _ _ hm];omega)];rw[List.drop_zero,K1 _ _ _ _ (qs m)]
  simp[go_sem,e7,e8,em,hlt,show m<=k by omega];refine qg.intro (by kernel_rfl) ?_;simp[go_sem,e7,e8,em,hlt,show m<=k by omega];refine Uv (cells:=rep s k m) (by simp[go_sem]) rfl (by rw[UL _ _ _ hm];omega) hc (qcH fun c hc=>by rw[List.eq_of_mem_replicate hc];rfl) ?_;have e1:putCells (rep s k m) m ((((qW m (aI s)).map fun c=>[c]).take (k-m)).flatten)=rep s k (m+min m (k-m)):=by
   rw[<-List.map_take,qcG,List.take_replicate,Nat.min_comm];exact K2 s k m _ hm (by omega)
  simp only[e1];simp[go_sem,e7,e8,em];refine Keep.loop (k-(m+min m (k-m))) (by omega) ⟨m+min m (k-m),rfl,by omega,by omega,by simp[go_sem,e7],?_,by simp[go_sem]⟩;simp[go_sem];rw[qi (by omega) (by omega)]
 .obtain rfl:m=k:=by omega
  simp[go_sem,e7,e8,em];have:rep s m m=(qW m s).map aI:=by simp[rep]
  rw[this];exact(qcE (lo:=0) (mu:=[.arr ((qW m s).map aI)]) (b:=0) (Nat.zero_le _) rfl (by simp)).rdI
end YS
namespace YF
open Y1 P1
abbrev cPm(p:ByteArray×Int):List AV:=[aS p.1,aI p.2]
abbrev lPm(l:List (ByteArray×Int)):AV := .lst false (l.map cPm)
abbrev cPd(p:Pd):List AV:=aS p.name :: lPm p.params :: cNd p.body
abbrev lPd(l:List Pd):AV := .lst false (l.map cPd)
abbrev cFa(f:ByteArray×Nd):List AV:=aS f.1 :: cNd f.2
abbrev lSo(l:List (ByteArray×Bool)):AV := .lst false (l.map Ze)
abbrev lFl(l:List Fld):AV := .lst false (l.map uh)
abbrev lFa(l:List (ByteArray×Nd)):AV := .lst false (l.map cFa)
abbrev cTS(s:TS):List AV:=[lSo s.sorts,lFl s.fields,lPd s.preds,lFa s.facts]
abbrev eTS(s:TS):AV := .agg (cTS s)
theorem wA(p:ByteArray×Int):∀ c,c∈cPm p->HF c:=by
 intro c hc;simp at hc;rcases hc with rfl|rfl<;>exact HF.sc _
theorem yJ(l:List (ByteArray×Int)):HF (lPm l):=HF.lst fun r hr c hc=>by
 obtain⟨p,_,rfl⟩:=qq.1 hr;exact wA p c hc
theorem UM(p:Pd):∀ c,c∈cPd p->HF c:=by
 intro c hc;simp only[cPd,qz]at hc;rcases hc with rfl|rfl|hc
 .exact HF.sc _
 .exact yJ _
 .exact vw p.body c hc
theorem wC(l:List Pd):HF (lPd l):=HF.lst fun r hr c hc=>by
 obtain⟨p,_,rfl⟩:=qq.1 hr;exact UM p c hc
theorem qcJ(p:ByteArray×Nd):∀ c,c∈cFa p->HF c:=by
 intro c hc;simp only[cFa,qz]at hc;rcases hc with rfl|hc
 .exact HF.sc _
 .exact vw p.2 c hc
theorem Ye(l:List (ByteArray×Nd)):HF (lFa l):=HF.lst fun r hr c hc=>by
 obtain⟨p,_,rfl⟩:=qq.1 hr;exact qcJ p c hc
theorem qcK(p:ByteArray×Bool):∀ c,c∈Ze p->HF c:=by
 intro c hc;simp at hc;rcases hc with rfl|rfl<;>exact HF.sc _
theorem JN(l:List (ByteArray×Bool)):HF (lSo l):=HF.lst fun r hr c hc=>by
 obtain⟨p,_,rfl⟩:=qq.1 hr;exact qcK p c hc
theorem JO(l:List Fld):HF (lFl l):=HF.lst fun r hr c hc=>by
 obtain⟨p,_,rfl⟩:=qq.1 hr;exact Uw p c hc
theorem K3(s:TS):∀ c,c∈cTS s->HF c:=by
 intro c hc;simp only[cTS,qz,zk,or_false]at hc;rcases hc with rfl|rfl|rfl|rfl
 .exact JN _
 .exact JO _
 .exact wC _
 .exact Ye _
theorem zh(s:TS):HF (eTS s):=HF.agg (K3 s)
theorem qcL(n:Nd):(cNd n).length=5/\(cNd n).all AV.one=true:=⟨Zf n,Zg n⟩
theorem vA(p:Pd):(cPd p).length=7/\(cPd p).all AV.one=true:=⟨by simp[cPd,Zf],by simp only[cPd,List.all_cons,Zg];rfl⟩
theorem K4(p:ByteArray×Nd):(cFa p).length=6/\(cFa p).all AV.one=true:=⟨by simp[cFa,Zf],by simp only[cFa,List.all_cons,Zg];rfl⟩
def JP(P:Program)(fv:AV){α:Type}(xs:List α)(enc:α->AV)(g:α->Bool):Prop:=
 ∃ f first caps,fv = .fn (.func f) first caps/\∀ x,x∈xs->∃ args',qj P f args' (aB (g x))/\WKs (first++[enc x]++caps) args'
def idxI{α:Type}(xs:List α)(g:α->Bool):Int:=match xs.findIdx? g with|some i=>i|none => -1
theorem K5{α:Type}{xs:List α}{g:α->Bool}{k:Nat}(hk:k<xs.length)(hg:g xs[k]=true)(hb:∀(j:Nat) (h:j<xs.length),j<k->g xs[j]=false):idxI xs g=k:=by
 unfold idxI;have:xs.findIdx? g=some k:=by
  rw[List.findIdx?_eq_some_iff_getElem];exact⟨hk,hg,fun j hj=>by rw[hb j (by omega) hj];simp⟩
 rw[this]
theorem K6{α:Type}{xs:List α}{g:α->Bool}(hb:∀(j:Nat) (h:j<xs.length),g xs[j]=false):idxI xs g = -1:=by
 unfold idxI;have:xs.findIdx? g=none:=by
  rw[List.findIdx?_eq_none_iff];intro x hx;obtain⟨j,hj,rfl⟩:=ZK.1 hx;exact hb j hj
 rw[this]
theorem K7{α:Type}(xs:List α)(g:α->Bool):decide (0<=idxI xs g)=xs.any g:=by
 unfold idxI;cases h:xs.findIdx? g with
 |none =>
  rw[List.findIdx?_eq_none_iff]at h;have:xs.any g=false:=by
   rw[<-Bool.not_eq_true,List.any_eq_true];rintro⟨x,hx,hg⟩;rw[h x hx]at hg;exact absurd hg (by simp)
  rw[this];rfl
 |some i =>
  rw[List.findIdx?_eq_some_iff_getElem]at h;obtain⟨hi,hg,_⟩:=h;have:xs.any g=true:=List.any_eq_true.2 ⟨_,qw hi,hg⟩;rw[this];simp
theorem idxNd(full:Bool)(xs:List (Nd))(fv:AV)(g:Nd->Bool)(hf:JP qc fv xs (fun x => .agg (cNd x)) g)(hl:xs.length<=1000000000000):qj qc 256 [.lst full (xs.map cNd),fv] (aI (idxI xs g)):=by
 refine qSQ call256 func256 rfl {} ?_;obtain⟨f,first,caps,rfl,hf⟩:=hf;simp[go_sem];refine qn.up xs.length (fun k st=>st.tm 0 = .lst full (xs.map cNd)/\st.tm 1 = .fn (.func f) first caps/\st.tm 6 = .lst full (xs.map cNd)/\st.tm 7=aI xs.length/\st.tm 8=aI k/\st.mu=[]/\∀(j:Nat) (h:j<xs.length),j<k->g xs[j]=false) ?_ ?_
 .simp [go_sem]
 .rintro k st hk ⟨e0,e1,e6,e7,e8,hm,hb⟩
  by_cases he:k=xs.length
  .subst he
   simp[go_sem,e0,e1,e6,e7,e8,hm];rw[K6 (fun j h=>hb j h h)];exact .hf _ (HF.sc _)
  .have hlt:k<xs.length:=by omega
   obtain⟨args',hs,hw⟩:=hf xs[k] (qw hlt);have hw':=qi (n:=((k+1:Nat):Int)) (by omega) (by omega);simp[go_sem,e0,e1,e6,e7,e8,hm,hlt,qcL xs[k],qm];refine .inl ⟨_,.inl ⟨f,first,caps,args',rfl,hs,.inl hw⟩,?_⟩;cases hg:g xs[k] with
   |true =>
    simp[go_sem,e0,e1,e6,e7,e8,hm];rw[K5 hlt hg (fun j h hj=>hb j h hj)];exact .hf _ (HF.sc _)
   |false =>
    simp[go_sem,e0,e1,e6,e7,e8,hm,hlt];simp at hw';refine⟨hw',fun j h hj=>?_⟩;by_cases hjk:j=k
    .subst hjk;exact hg
    .exact hb j h (by omega)
theorem hasNd(full:Bool)(xs:List (Nd))(fv:AV)(g:Nd->Bool)(hf:JP qc fv xs (fun x => .agg (cNd x)) g)(hh:HF fv)(hh2:HF (.lst full (xs.map cNd)))(hl:xs.length<=1000000000000):qj qc 236 [.lst full (xs.map cNd),fv] (aB (xs.any g)):=by
 refine qSQ call236 func236 rfl {} ?_;simp[go_sem];refine qe.pure (idxNd full xs fv g hf hl) (.cons (.hf hh2) (.cons (.hf hh) .nil)) ?_;simp[go_sem];rw[K7];exact .hf _ (HF.sc _)
theorem K8(full:Bool)(xs:List (Pd))(fv:AV)(g:Pd->Bool)(hf:JP qc fv xs (fun x => .agg (cPd x)) g)(hl:xs.length<=1000000000000):qj qc 187 [.lst full (xs.map cPd),fv] (aI (idxI xs g)):=by
 refine qSQ call187 func187 rfl {} ?_;obtain⟨f,first,caps,rfl,hf⟩:=hf;simp[go_sem];refine qn.up xs.length (fun k st=>st.tm 0 = .lst full (xs.map cPd)/\st.tm 1 = .fn (.func f) first caps/\st.tm 6 = .lst full (xs.map cPd)/\st.tm 7=aI xs.length/\st.tm 8=aI k/\st.mu=[]/\∀(j:Nat) (h:j<xs.length),j<k->g xs[j]=false) ?_ ?_
 .simp [go_sem]
 .rintro k st hk ⟨e0,e1,e6,e7,e8,hm,hb⟩
  by_cases he:k=xs.length
  .subst he
   simp[go_sem,e0,e1,e6,e7,e8,hm];rw[K6 (fun j h=>hb j h h)];exact .hf _ (HF.sc _)
  .have hlt:k<xs.length:=by omega
   obtain⟨args',hs,hw⟩:=hf xs[k] (qw hlt);have hw':=qi (n:=((k+1:Nat):Int)) (by omega) (by omega);simp[go_sem,e0,e1,e6,e7,e8,hm,hlt,vA xs[k],qm];refine .inl ⟨_,.inl ⟨f,first,caps,args',rfl,hs,.inl hw⟩,?_⟩;cases hg:g xs[k] with
   |true =>
    simp[go_sem,e0,e1,e6,e7,e8,hm];rw[K5 hlt hg (fun j h hj=>hb j h hj)];exact .hf _ (HF.sc _)
   |false =>
    simp[go_sem,e0,e1,e6,e7,e8,hm,hlt];simp at hw';refine⟨hw',fun j h hj=>?_⟩;by_cases hjk:j=k
    .subst hjk;exact hg
    .exact hb j h (by omega)
theorem hasPd(full:Bool)(xs:List (Pd))(fv:AV)(g:Pd->Bool)(hf:JP qc fv xs (fun x => .agg (cPd x)) g)(hh:HF fv)(hh2:HF (.lst full (xs.map cPd)))(hl:xs.length<=1000000000000):qj qc 259 [.lst full (xs.map cPd),fv] (aB (xs.any g)):=by
 refine qSQ call259 func259 rfl {} ?_;simp[go_sem];refine qe.pure (K8 full xs fv g hf hl) (.cons (.hf hh2) (.cons (.hf hh) .nil)) ?_;simp[go_sem];rw[K7];exact .hf _ (HF.sc _)
end YF
namespace Y9
open Y1 Y2 P1 YF
abbrev cCk(c:Ck):List AV:=[lSo c.ts.sorts,lFl c.ts.fields,lPd c.ts.preds,lFa c.ts.facts,aI c.calls,.lst false (c.timed.map fun b=>[aB b])]
abbrev eCk(c:Ck):AV := .ip (cCk c)
theorem yV(c:Ck):HF (eCk c):=HF.ip fun x hx=>by
 simp only[cCk,qz,zk,or_false]at hx;rcases hx with rfl|rfl|rfl|rfl|rfl|rfl
 .exact JN _
 .exact JO _
 .exact wC _
 .exact Ye _
 .exact HF.sc _
 .exact HF.lst fun r hr c hc=>by
   obtain⟨b,_,rfl⟩:=qq.1 hr;simp at hc;subst hc;exact HF.sc _
structure okTS (s:TS):Prop where
 ns:s.sorts.length<=4
 nf:s.fields.length<=6
 np:s.preds.length<=8
 nfa:s.facts.length<=16
 sl:∀ x,x∈s.sorts->x.1.size<=4611686018427387904
 fl:∀ f,f∈s.fields->1<=f.sorts.length/\f.sorts.length<=3/\∀ x,x∈f.sorts->0<=x/\x<s.sorts.length
 pl:∀ p,p∈s.preds->p.params.length<=8/\∀ x,x∈p.params->0<=x.2/\x.2<s.sorts.length
structure okCk (c:Ck):Prop where
 ts:okTS c.ts
 calls:c.calls<=c.ts.preds.length
 timed:c.calls<=c.timed.length
theorem qcM(p:Pd)(nm:ByteArray):qj qc 269 [.agg (cPd p),.ip [aS nm]] (aB (decide (p.name=nm))):=by
 refine qSQ call269 func269 rfl {} ?_;by_cases h:p.name=nm
 .simp [go_sem,h]
  exact .hf _ (HF.sc _)
 .simp [go_sem,h,jL h]
  exact .hf _ (HF.sc _)
theorem K9(c:Ck)(hc:okCk c)(nm:ByteArray):qj qc 255 [eCk c,aS nm] (aI (match zA c nm with|some i=>i|none => -1)):=by
 refine qSQ call255 func255 rfl {} ?_;simp[go_sem];refine qg.intro (by kernel_rfl) ?_;have hcl:=hc.calls;have hnp:=hc.ts.np;have htk:List.take c.calls (c.ts.preds.map cPd)=(c.ts.preds.take c.calls).map cPd:=by rw[List.map_take]
 simp[go_sem,show (c.calls:Int)<=c.ts.preds.length by omega];refine⟨⟨_,_,⟨rfl,rfl⟩,fun r hr=>by obtain⟨p,_,rfl⟩:=qq.1 hr;exact(vA p).1⟩,?_⟩;rw[htk];have hfn:HF (.fn (.func 269) [] [.ip [aS nm]]):=HF.fn (by simp) (fun x hx=>by simp at hx;subst hx;exact HF.ip fun y hy=>by simp at hy;subst hy;exact HF.sc _);refine qe.pure (K8 false (c.ts.preds.take c.calls) _ (fun p=>decide (p.name=nm)) ⟨_,_,_,rfl,fun p hp=>⟨_,qcM p nm,.cons (.hf (HF.agg (UM p))) (.cons (.hf (HF.ip fun y hy=>by simp at hy;subst hy;exact HF.sc _)) .nil)⟩⟩ (by simp;omega)) (.cons (.hf (wC _)) (.cons (.hf hfn) .nil)) ?_;simp[go_sem];exact .hf _ (HF.sc _)
theorem Yf{c:Ck}(hc:okCk c){nm:ByteArray}{p:Nat}(h:zA c nm=some p):p<c.calls/\p<c.ts.preds.length:=by
 unfold zA at h;rw[List.findIdx?_eq_some_iff_getElem]at h;obtain⟨hp,_⟩:=h;simp at hp;omega
theorem kb(c:Ck)(hc:okCk c)(n:Nd):qj qc 235 [eCk c,eNd n] (aB (yy c n.op n.name)):=by
 refine qSQ call235 func235 rfl {} ?_;unfold yy z7;by_cases h5:n.op=5
 .simp [go_sem,h5];exact .hf _ (HF.sc _)
 by_cases h48:n.op=48
 .simp [go_sem,h48];exact .hf _ (HF.sc _)
 by_cases h49:n.op=49
 .simp [go_sem,h49];exact .hf _ (HF.sc _)
 by_cases h50:n.op=50
 .simp [go_sem,h50];exact .hf _ (HF.sc _)
 by_cases h51:n.op=51
 .simp [go_sem,h51];exact .hf _ (HF.sc _)
 by_cases h47:n.op=47
 .simp [go_sem,h47]
  refine qe.pure (K9 c hc n.name) (.cons (.hf (yV c)) (.cons (.hf (HF.sc _)) .nil)) ?_;cases hq:zA c n.name with
  |none =>
   simp[go_sem];exact .hf _ (HF.sc _)
  |some p =>
   obtain⟨h1,h2⟩:=Yf hc hq;have h3:p<c.timed.length:=Nat.lt_of_lt_of_le h1 hc.timed;simp[go_sem,h3];exact .hf _ (HF.sc _)
 .simp [go_sem,h5,h48,h49,h50,h51,h47]
  exact .hf _ (HF.sc _)
theorem kc(c:Ck):∀ ks:List Nd,JG c ks=ks.any (yn c)
 | []=>rfl
 |k :: ks=>by simp[JG,kc c ks]
noncomputable abbrev szN(n:Nd):Nat:=SizeOf.sizeOf n
theorem yj{n k:Nd}(h:k∈n.kids):szN k<szN n:=by
 obtain⟨op,nm,i,ks,p⟩:=n;have:SizeOf.sizeOf k<SizeOf.sizeOf ks:=List.sizeOf_lt_of_mem h;simp only[szN,Nd.mk.sizeOf_spec];omega
inductive Small:Nd->Prop where
 |mk (n:Nd) (h:n.kids.length<=1000) (hk:∀ k,k∈n.kids->Small k):Small n
theorem Small.len{n:Nd}(h:Small n):n.kids.length<=1000:=by cases h;assumption
theorem Small.kid{n k:Nd}(h:Small n)(hk:k∈n.kids):Small k:=by
 cases h with
 |mk _ _ h=>exact h k hk
theorem kf(c:Ck)(n:Nd):yn c n=(yy c n.op n.name||n.kids.any (yn c)):=by
 obtain⟨op,nm,i,ks,p⟩:=n;simp[yn,kc,Nd.op,Nd.name,Nd.kids]
theorem kg(c:Ck)(hc:okCk c):∀(m:Nat) (n:Nd),szN n<=m->Small n->qj qc 208 [eCk c,eNd n] (aB (yn c n))
 | 0,n,hm,_=>by obtain⟨op,nm,i,ks,p⟩:=n;simp[szN]at hm
 |m+1,n,hm,hs=>by
  refine qSQ call208 func208 rfl {} ?_;rw[kf];simp[go_sem];refine qe.pure (kb c hc n) (.cons (.hf (yV c)) (.cons (.hf (qH n)) .nil)) ?_;cases ht:yy c n.op n.name with
  |true =>
   simp[go_sem];exact .hf _ (HF.sc _)
  |false =>
   simp[go_sem];have hfn:HF (.fn (.func 208) [eCk c] []):=HF.fn (fun x hx=>by simp at hx;subst hx;exact yV c) (by simp);refine qe.pure (hasNd false n.kids _ (yn c) ⟨_,_,_,rfl,fun k hk=>⟨_,kg c hc m k (by have:=yj hk;omega) (hs.kid hk),.cons (.hf (yV c)) (.cons (.hf (qH k)) .nil)⟩⟩ hfn (JF _) (by have:=hs.len;omega)) (.cons (.hf (JF _)) (.cons (.hf hfn) .nil)) ?_;simp[go_sem];exact .hf _ (HF.sc _)
end Y9
namespace E1
theorem JQ{n:Int}(h0:0<=n)(h1:n<=20):∀ i:Nat,i<=3->0<=n ^ i/\n ^ i<=8000:=by
 have a1:0<=n*n:=Int.mul_nonneg h0 h0;have a2:n*n<=20*20:=jt h1 h1 h0 (by omega);have a3:0<=n*n*n:=Int.mul_nonneg a1 h0;have a4:n*n*n<=20*20*20:=jt a2 h1 h0 (by omega);intro i hi
 match i,hi with
 | 0,_=>rw[Int.pow_zero];omega
 | 1,_=>rw[Int.pow_succ,Int.pow_zero];omega
 | 2,_=>rw[Int.pow_succ,Int.pow_succ,Int.pow_zero,Int.one_mul];omega
 | 3,_=>rw[Int.pow_succ,Int.pow_succ,Int.pow_succ,Int.pow_zero,Int.one_mul];omega
def powN(k:Int):Nat:=(min k 3).toNat
def powI(n k:Int):Int:=n ^ powN k
def z8(l:List Int):Prop:=l.Pairwise (·<·)
instance (l:List Int):Decidable (z8 l):=inferInstanceAs (Decidable (l.Pairwise (·<·)))
theorem qcN{l:List Int}(h:∀(i:Nat) (h:i+1<l.length),l[i]<l[i+1]):z8 l:=by
 unfold z8;induction l with
 |nil=>exact .nil
 |cons a l ih =>
  have ih:=ih fun i hi=>by
   have:=h (i+1) (by simpa using hi);rw[List.getElem_cons_succ,List.getElem_cons_succ]at this;exact this
  refine vG.2 ⟨?_,ih⟩;cases l with
  |nil=>simp
  |cons b l =>
   have h0:=h 0 (by simp);simp at h0;intro c hc;rcases qz.1 hc with rfl|hc
   .exact h0
   .have:=(vG.1 ih).1 c hc
    omega
theorem qcO{l:List Int}(h:z8 l){i j:Nat}(hij:i<j)(hj:j<l.length):l[i]'(by omega)<l[j]:=List.pairwise_iff_getElem.1 h i j (by omega) hj hij
def jn(n:Int)(r:Rl):Bool:=decide (0<=n)&&decide (n<=12)&&decide (1<=r.ar)&&decide (r.ar<=3)&&r.ts.all (fun t=>decide (0<=t)&&decide (t<powI n r.ar))&&decide (z8 r.ts)
theorem JR{l:List Int}(h:z8 l):l.Nodup:=List.Pairwise.imp (fun h e=>by omega) h
theorem kh{l m:List Int}(h1:z8 l)(h2:z8 m)(h:∀ x,x∈l↔x∈m):l=m:=
 List.Perm.eq_of_pairwise (le:=fun a b:Int=>a<b) (fun a b _ _ h1 h2=>by omega) h1 h2 ((List.perm_ext_iff_of_nodup (JR h1) (JR h2)).2 h)
def atN(l:List Int)(r:Int):Nat->Nat
 | 0=>0
 |n+1=>if r<=gI l n then atN l r n else n+1
theorem ki(l:List Int)(r:Int):∀ n,atN l r n<=n
 | 0=>qs _
 |n+1=>by
  have:=ki l r n;rw[atN];split<;>omega
def addL(l:List Int)(r:Int):List Int:=if l[atN l r l.length]?=some r then l else l.take (atN l r l.length)++[r]++l.drop (atN l r l.length)
def ofL(ts:List Int):List Int:=ts.foldl addL []
theorem kj(l:List Int)(r:Int):∀ n,(∀ i,atN l r n<=i->i<n->r<=gI l i)/\(0<atN l r n->gI l (atN l r n-1)<r)
 | 0=>⟨fun i _ h=>by omega,fun h=>by simp[atN]at h⟩
 |n+1=>by
  obtain⟨h1,h2⟩:=kj l r n;rw[atN];by_cases h:r<=gI l n
  .rw [if_pos h]
   refine⟨fun i hi hn=>?_,h2⟩;by_cases e:i=n
   .rw [e];exact h
   .exact h1 i hi (by omega)
  .rw [if_neg h]
   exact⟨fun i hi hn=>by omega,fun _=>by simp;omega⟩
theorem qcP{l:List Int}(hs:z8 l)(r:Int):z8 (addL l r)/\∀ x,x∈addL l r↔x∈l\/x=r:=by
 obtain⟨h1,h2⟩:=kj l r l.length;have hk:=ki l r l.length;unfold addL;generalize atN l r l.length=k at *
 by_cases hc:l[k]?=some r
 .rw [if_pos hc]
  exact⟨hs,fun x=>⟨.inl,fun h=>h.elim id fun e=>by rw[e];exact qS hc⟩⟩
 .rw [if_neg hc]
  have hsl:∀ i j (hi:i<l.length) (hj:j<l.length),i<j->l[i]<l[j]:=fun i j hi hj hij=>List.pairwise_iff_getElem.1 hs i j hi hj hij
  have lo:∀ x,x∈l.take k->x<r:=by
   intro x hx;obtain⟨i,hi,e⟩:=ZK.1 hx;rw[List.getElem_take]at e;have hik:i<k:=by simp at hi;omega
   have:=h2 (by omega);rw[w6 (by omega)]at this;by_cases e2:i=k-1
   .subst e2;omega
   .have:=hsl i (k-1) (by omega) (by omega) (by omega);omega
  have hi:∀ x,x∈l.drop k->r<x:=by
   intro x hx;obtain⟨i,hi,e⟩:=ZK.1 hx;rw[List.getElem_drop]at e;have hil:k+i<l.length:=by simp at hi;omega
   have h0:=h1 k (by omega) (by omega);rw[w6 (by omega)]at h0;have hne:l[k]'(by omega)≠r:=fun e=>hc (by rw[qv (by omega),e])
   by_cases e2:i=0
   .subst e2;simp at e;omega
   .have:=hsl k (k+i) (by omega) hil (by omega);omega
  refine⟨?_,fun x=>?_⟩
  .unfold z8 at *
   rw[zx,List.pairwise_append];refine⟨hs.sublist (List.take_sublist _ _),?_,fun a ha b hb=>?_⟩
   .rw [List.singleton_append,vG]
    exact⟨hi,hs.sublist (List.drop_sublist _ _)⟩
   .rw [List.singleton_append,qz]at hb
    have:=lo a ha;rcases hb with e|hb
    .omega
    .have:=hi b hb;omega
  .have:x∈l↔x∈l.take k\/x∈l.drop k:=by
    rw[<-qU,vh]
   rw[this,qU,qU,qY];constructor
   .rintro ((h|h)|h)
    .exact .inl (.inl h)
    .exact .inr h
    .exact .inl (.inr h)
   .rintro ((h|h)|h)
    .exact .inl (.inl h)
    .exact .inr h
    .exact .inl (.inr h)
theorem kl:∀(ts l:List Int),z8 l->z8 (ts.foldl addL l)/\∀ x,x∈ts.foldl addL l↔x∈l\/x∈ts
 | [],l,h=>⟨h,fun x=>by simp⟩
 |t :: ts,l,h=>by
  obtain⟨h1,h2⟩:=qcP h t;obtain⟨h3,h4⟩:=kl ts _ h1;refine⟨h3,fun x=>?_⟩;rw[List.foldl_cons,h4,h2,qz];constructor
  .rintro ((h|h)|h)
   .exact .inl h
   .exact .inr (.inl h)
   .exact .inr (.inr h)
  .rintro (h|h|h)
   .exact .inl (.inl h)
   .exact .inl (.inr h)
   .exact .inr h
theorem JS(ts:List Int):z8 (ofL ts)/\∀ x,x∈ofL ts↔x∈ts:=by
 obtain⟨h1,h2⟩:=kl ts [] (by unfold z8;exact .nil);exact⟨h1,fun x=>by rw[ofL,h2];simp⟩
structure GR (n:Int) (r:Rl):Prop where
 ar1:1<=r.ar
 ar3:r.ar<=3
 val:∀ t,t∈r.ts->0<=t/\t<powI n r.ar
 srt:z8 r.ts
def unR(a b:Rl):Rl:=⟨a.ar,ofL (a.ts++b.ts)⟩
def inR(a b:Rl):Rl:=⟨a.ar,a.ts.filter fun t=>decide (t∈b.ts)⟩
def diR(a b:Rl):Rl:=⟨a.ar,a.ts.filter fun t=>decide (¬t∈b.ts)⟩
def prL(m:Int)(x y:List Int):List Int:=x.flatMap fun s=>y.map fun t=>s*m+t
def prR(n:Int)(a b:Rl):Rl:=⟨a.ar+b.ar,prL (powI n b.ar) a.ts b.ts⟩
def joL(n m:Int)(x y:List Int):List Int:=x.flatMap fun s=>(y.filter fun t=>decide (t / m=s % n)).map fun t=>s / n*m+t % m
def joR(n:Int)(a b:Rl):Rl:=⟨a.ar+b.ar-2,ofL (joL n (powI n (b.ar-1)) a.ts b.ts)⟩
def trR(n:Int)(a:Rl):Rl:=⟨2,ofL (a.ts.map fun t=>t % n*n+t / n)⟩
def clR(n:Int):Nat->Rl->Rl
 | 0,c=>c
 |f+1,c=>if (unR c (joR n c c)).ts.length=c.ts.length then c else clR n f (unR c (joR n c c))
def ovR(n:Int)(a b:Rl):Rl:=unR b ⟨a.ar,a.ts.filter fun t=>decide (∀ u,u∈b.ts->u / powI n (b.ar-1)≠t / powI n (b.ar-1))⟩
def idR(n:Int):Rl:=⟨2,(qu n.toNat).map fun x:Nat=>(x:Int)*n+x⟩
theorem qcQ:z8 []:=List.Pairwise.nil
theorem Yg{l:List Int}{m:Nat}(hs:z8 l)(h:∀ t,t∈l->0<=t/\t<(m:Int)):l.length<=m:=by
 have:=jF (l₂:=(qu m).map fun x:Nat=>(x:Int)) (JR hs) fun x hx=>by
  obtain⟨h1,h2⟩:=h x hx;exact qq.2 ⟨x.toNat,zS.2 (by omega),by omega⟩
 simpa using this
theorem qcR{l:List Int}(p:Int->Bool)(h:z8 l):z8 (l.filter p):=List.Pairwise.filter p h
theorem uW{n:Int}(h0:0<=n)(h1:n<=20)(k:Int):0<=powI n k/\powI n k<=8000:=JQ h0 h1 _ (by unfold powN;omega)
theorem GR.len{n:Int}{r:Rl}(h0:0<=n)(h1:n<=20)(g:GR n r):r.ts.length<=8000:=by
 have hp:=uW h0 h1 r.ar;have:=Yg (m:=(powI n r.ar).toNat) g.srt fun t ht=>by have:=g.val t ht;omega
 omega
theorem GR.union{n:Int}{a b:Rl}(ha:GR n a)(hb:GR n b)(e:a.ar=b.ar):GR n (unR a b):=by
 obtain⟨h1,h2⟩:=JS (a.ts++b.ts);refine⟨ha.ar1,ha.ar3,fun t ht=>?_,h1⟩;rcases qU.1 ((h2 t).1 ht) with h|h
 .exact ha.val t h
 .show 0<=t/\t<powI n a.ar
  rw[e];exact hb.val t h
theorem GR.filter{n:Int}{a:Rl}(ha:GR n a)(p:Int->Bool):GR n ⟨a.ar,a.ts.filter p⟩:=
 ⟨ha.ar1,ha.ar3,fun t ht=>ha.val t (vd.1 ht).1,qcR p ha.srt⟩
end E1
namespace E3
open Y1 P1 E1
structure Md where
 sc:Sc
 states:List (List Rl)
 loop:Int
abbrev cSt(s:List Rl):List AV:=[lRel s]
abbrev lSt(l:List (List Rl)):AV := .lst false (l.map cSt)
abbrev cMd(m:Md):List AV:=[lI m.sc.atoms,aI m.sc.steps,lSt m.states,aI m.loop]
abbrev eMd(m:Md):AV := .agg (cMd m)
abbrev XE(α:Type):=Except Int α
def bX{α β:Type}(q:XE α)(g:α->XE β):XE β:=match q with
 | .error e => .error e
 | .ok a=>g a
theorem qO{α β:Type}(a:α)(g:α->XE β):bX (.ok a) g=g a:=rfl
theorem q9{α β:Type}(e:Int)(g:α->XE β):bX (.error e) g = .error e:=rfl
def mapX{α β:Type}(g:α->XE β):List α->XE (List β)
 | [] => .ok []
 |a :: l=>bX (g a) fun b=>bX (mapX g l) fun r => .ok (b :: r)
structure Pl where
 st:Nat
 env:List (ByteArray×Int)
structure Mo where
 ts:TS
 m:Md
def Mo.n(x:Mo):Int:=sumI x.m.sc.atoms
def Mo.nx(x:Mo)(s:Nat):Nat:=if s+1<x.m.states.length then s+1 else x.m.loop.toNat
def uX(x:Mo):Nat->Nat->List Nat->List Nat
 | 0,_,acc=>acc
 |f+1,s,acc=>if s∈acc then acc else uX x f (x.nx s) (acc++[s])
def Mo.path(x:Mo)(s:Nat):List Nat:=uX x (x.m.states.length+1) s []
def zI(nm:ByteArray)(env:List (ByteArray×Int)):Option Int:=env.foldl (fun r e=>if e.1=nm then some e.2 else r) none
def zp(x:Mo)(i:Nat):List Int:=(qu (gI x.m.sc.atoms i).toNat).map fun k:Nat=>sumI (x.m.sc.atoms.take i)+k
def um(x:Mo)(i:Nat):List Int:=(qu ((gI x.m.sc.atoms i).toNat-1)).map fun k:Nat=>(sumI (x.m.sc.atoms.take i)+k)*x.n+(sumI (x.m.sc.atoms.take i)+k+1)
def j8(fs:List Fld)(rs:List Rl)(nm:ByteArray):List Rl:=(fs.zip rs).filterMap fun e=>if e.1.name=nm then some e.2 else none
def yA(x:Mo)(nm:ByteArray):Nat->List (ByteArray×Bool)->List Rl
 |_,[]=>[]
 |i,s :: so=>(if s.1=nm then [⟨1,zp x i⟩] else [])++((if s.2=true/\s.1++jc=nm then [⟨1,(zp x i).take 1⟩] else [])++((if s.2=true/\s.1++vz=nm then [⟨2,um x i⟩] else [])++yA x nm (i+1) so))
def Zk:List Rl->XE Rl
 | [] => .error 40
 | [r] => .ok r
 |_ => .error 44
def uY(x:Mo)(p:Pl)(nm:ByteArray):XE Rl:=match zI nm p.env with
 |some a => .ok ⟨1,[a]⟩
 |none=>Zk (j8 x.ts.fields (x.m.states.getD p.st []) nm++yA x nm 0 x.ts.sorts)
structure Den where
 E:Pl->XE Rl
 N:Pl->XE Int
 F:Pl->XE Bool
def noD:Den:=⟨fun _ => .error 43,fun _ => .error 43,fun _ => .error 43⟩
def kD(ds:List Den)(i:Nat):Den:=ds.getD i noD
def zT(ds:List Den)(p:Pl):XE (Rl×Rl):=bX ((kD ds 0).E p) fun a=>bX ((kD ds 1).E p) fun b=>if a.ar=b.ar then .ok (a,b) else .error 42
def binE(ds:List Den)(p:Pl):XE Rl:=bX ((kD ds 0).E p) fun a=>if a.ar=2 then .ok a else .error 42
def zY(ds:List Den)(nm:ByteArray)(p:Pl):XE (List (Int×Bool)):=bX ((kD ds 0).E p) fun d=>if d.ar=1 then mapX (fun a=>bX ((kD ds 1).F ⟨p.st,p.env++[(nm,a)]⟩) fun b => .ok (a,b)) d.ts else .error 42
def un(n:Int)(a b:Rl):XE Rl:=if 1<=a.ar+b.ar-2/\a.ar+b.ar-2<=3 then .ok (joR n a b) else .error 42
def wD(n:Int)(a b:Rl):XE Rl:=if a.ar+b.ar<=3 then .ok (prR n a b) else .error 42
def opE(x:Mo)(op:Int)(nm:ByteArray)(i:Int)(ds:List Den)(p:Pl):XE Rl:=
 if op=1 then uY x p nm
 else if op=2 then .ok ⟨i,[]⟩
 else if op=3 then .ok ⟨1,(qu x.n.toNat).map fun k:Nat=>(k:Int)⟩
 else if op=4 then .ok (idR x.n)
 else if op=5 then (kD ds 0).E ⟨x.nx p.st,p.env⟩
 else if op=6 then bX (zT ds p) fun q => .ok (unR q.1 q.2)
 else if op=7 then bX (zT ds p) fun q => .ok (inR q.1 q.2)
 else if op=8 then bX (zT ds p) fun q => .ok (diR q.1 q.2)
 else if op=9 then bX ((kD ds 0).E p) fun a=>bX ((kD ds 1).E p) fun b=>un x.n a b
 else if op=10 then bX ((kD ds 0).E p) fun a=>bX ((kD ds 1).E p) fun b=>wD x.n a b
 else if op=11 then bX (binE ds p) fun a => .ok (trR x.n a)
 else if op=12 then bX (binE ds p) fun a => .ok (clR x.n 200 a)
 else if op=13 then bX (binE ds p) fun a => .ok (unR (clR x.n 200 a) (idR x.n))
 else if op=14 then bX (zT ds p) fun q => .ok (ovR x.n q.1 q.2)
 else if op=15 then bX (zY ds nm p) fun l => .ok ⟨1,(l.filter fun e=>e.2).map fun e=>e.1⟩
 else .error 43
def opN(op:Int)(i:Int)(ds:List Den)(p:Pl):XE Int:=
 if op=20 then .ok i
 else if op=21 then bX ((kD ds 0).E p) fun a => .ok (a.ts.length:Int)
 else if op=22 then bX ((kD ds 0).N p) fun a=>bX ((kD ds 1).N p) fun b => .ok (ql.wrap (a+b))
 else if op=23 then bX ((kD ds 0).N p) fun a=>bX ((kD ds 1).N p) fun b => .ok (ql.wrap (a-b))
 else .error 43
def untX(g h:Nat->XE Bool):List Nat->Bool->Bool->XE Bool
 | [],done,_ => .ok done
 |s :: l,done,failed=>bX (g s) fun a=>bX (h s) fun b=>untX g h l (done||(b&&!failed)) (failed||!a)
def opF(x:Mo)(op:Int)(nm:ByteArray)(ds:List Den)(p:Pl):XE Bool:=
 if op=30 then .ok true
 else if op=31 then .ok false
 else if op=32 then bX (zT ds p) fun q => .ok (decide ((diR q.1 q.2).ts=[]))
 else if op=33 then bX (zT ds p) fun q => .ok (decide (q.1=q.2))
 else if op=34 then bX ((kD ds 0).E p) fun a => .ok (decide (0<a.ts.length))
 else if op=35 then bX ((kD ds 0).E p) fun a => .ok (decide (a.ts.length=0))
 else if op=36 then bX ((kD ds 0).E p) fun a => .ok (decide (a.ts.length=1))
 else if op=37 then bX ((kD ds 0).E p) fun a => .ok (decide (a.ts.length<=1))
 else if op=38 then bX ((kD ds 0).N p) fun a=>bX ((kD ds 1).N p) fun b => .ok (decide (a=b))
 else if op=39 then bX ((kD ds 0).N p) fun a=>bX ((kD ds 1).N p) fun b => .ok (decide (a<b))
 else if op=40 then bX ((kD ds 0).F p) fun a => .ok (!a)
 else if op=41 then bX ((kD ds 0).F p) fun a=>bX ((kD ds 1).F p) fun b => .ok (a&&b)
 else if op=42 then bX ((kD ds 0).F p) fun a=>bX ((kD ds 1).F p) fun b => .ok (a||b)
 else if op=43 then bX ((kD ds 0).F p) fun a=>bX ((kD ds 1).F p) fun b => .ok (!a||b)
 else if op=44 then bX ((kD ds 0).F p) fun a=>bX ((kD ds 1).F p) fun b => .ok (decide (a=b))
 else if op=45 then bX (zY ds nm p) fun l => .ok (l.all fun e=>e.2)
 else if op=46 then bX (zY ds nm p) fun l => .ok (l.any fun e=>e.2)
 else if op=47 then bX (mapX (fun d:Den=>d.E p) ds) fun _ => .error 45
 else if op=48 then bX (mapX (fun s=>(kD ds 0).F ⟨s,p.env⟩) (x.path p.st)) fun l => .ok (l.all id)
 else if op=49 then bX (mapX (fun s=>(kD ds 0).F ⟨s,p.env⟩) (x.path p.st)) fun l => .ok (l.any id)
 else if op=50 then (kD ds 0).F ⟨x.nx p.st,p.env⟩
 else if op=51 then untX (fun s=>(kD ds 0).F ⟨s,p.env⟩) (fun s=>(kD ds 1).F ⟨s,p.env⟩) (x.path p.st) false false
 else .error 43
def opD(x:Mo)(op:Int)(nm:ByteArray)(i:Int)(ds:List Den):Den:=⟨opE x op nm i ds,opN op i ds,opF x op nm ds⟩
mutual
def den(x:Mo):Nd->Den
 | .mk op nm i ks _=>opD x op nm i (dens x ks)
def dens(x:Mo):List Nd->List Den
 | []=>[]
 |k :: ks=>den x k :: dens x ks
end
theorem kn(x:Mo):∀ ks:List Nd,dens x ks=ks.map (den x)
 | []=>rfl
 |k :: ks=>by rw[dens,kn x ks,yz]
theorem Zl(x:Mo)(n:Nd):den x n=opD x n.op n.name n.n (n.kids.map (den x)):=by
 obtain⟨op,nm,i,ks,p⟩:=n;rw[den,kn];rfl
end E3
namespace E5
open Y1 E3
abbrev nk(op:Int)(ks:List Nd):Nd := .mk op ⟨#[]⟩ 0 ks 0
abbrev nb(op:Int)(nm:ByteArray)(e f:Nd):Nd := .mk op nm 0 [e,f] 0
variable (x:Mo) (p:Pl) (f g d e:Nd) (nm:ByteArray)
theorem kq:(den x (nk 41 [f,g])).F p=bX ((den x f).F p) fun a=>bX ((den x g).F p) fun b => .ok (a&&b):=by simp[den,dens,opD,opF,kD]
theorem F_or:(den x (nk 42 [f,g])).F p=bX ((den x f).F p) fun a=>bX ((den x g).F p) fun b => .ok (a||b):=by simp[den,dens,opD,opF,kD]
theorem F_imp:(den x (nk 43 [f,g])).F p=bX ((den x f).F p) fun a=>bX ((den x g).F p) fun b => .ok (!a||b):=by simp[den,dens,opD,opF,kD]
theorem JT:(den x (nb 45 nm d f)).F p=bX (zY [den x d,den x f] nm p) fun l => .ok (l.all fun e=>e.2):=by simp[den,dens,opD,opF,kD]
theorem F_ex:(den x (nb 46 nm d f)).F p=bX (zY [den x d,den x f] nm p) fun l => .ok (l.any fun e=>e.2):=by simp[den,dens,opD,opF,kD]
theorem ku:(den x (nk 48 [f])).F p=bX (mapX (fun s=>(den x f).F ⟨s,p.env⟩) (x.path p.st)) fun l => .ok (l.all id):=by simp[den,dens,opD,opF,kD]
theorem JU:(den x (nk 49 [f])).F p=bX (mapX (fun s=>(den x f).F ⟨s,p.env⟩) (x.path p.st)) fun l => .ok (l.any id):=by simp[den,dens,opD,opF,kD]
theorem UN:(den x (nk 50 [f])).F p=(den x f).F ⟨x.nx p.st,p.env⟩:=by simp[den,dens,opD,opF,kD]
end E5
namespace E7
open E3
def it(x:Mo):Nat->Nat->Nat
 | 0,s=>s
 |k+1,s=>it x k (x.nx s)
theorem Yh(x:Mo):∀ k s,it x (k+1) s=x.nx (it x k s)
 | 0,s=>rfl
 |k+1,s=>by rw[it,Yh x k (x.nx s)];rfl
theorem UO(x:Mo)(j:Nat):∀ k s,it x (k+j) s=it x k (it x j s)
 | 0,s=>by rw[yE];rfl
 |k+1,s=>by rw[Nat.add_right_comm,Yh,UO x j k s,Yh]
structure OkX (x:Mo) (N:Nat):Prop where
 len:x.m.states.length=N
 nx:∀ t,t<N->x.nx t<N
theorem UP{x:Mo}{N:Nat}(h:OkX x N){s:Nat}(hs:s<N):∀ k,it x k s<N
 | 0=>hs
 |k+1=>by rw[Yh];exact h.nx _ (UP h hs k)
abbrev its(x:Mo)(s r:Nat):List Nat:=(qu r).map fun k=>it x k s
theorem kv(x:Mo)(s r:Nat):its x s (r+1)=its x s r++[it x r s]:=by
 unfold its;rw[List.range_succ,zt];rfl
theorem kw{x:Mo}{N:Nat}(h:OkX x N){s:Nat}(hs:s<N):∀ f k,N+1<=f+k->(its x s k).Nodup->∃ r,k<=r/\uX x f (it x k s) (its x s k)=its x s r/\it x r s∈its x s r
 | 0,k,hk,hn=>by
  exfalso;have:=jF (l₂:=qu N) hn fun t ht=>by
   obtain⟨i,_,rfl⟩:=qq.1 ht;exact zS.2 (UP h hs i)
  simp at this;omega
 |f+1,k,hk,hn=>by
  rw[uX];by_cases hm:it x k s∈its x s k
  .rw [if_pos hm];exact⟨k,qs _,rfl,hm⟩
  .rw [if_neg hm,<-kv]
   have h1:x.nx (it x k s)=it x (k+1) s:=(Yh x k s).symm;rw[h1];obtain⟨r,a,b,c⟩:=kw h hs f (k+1) (by omega) (by
    rw[kv,jU];refine⟨hn,by simp,fun a ha b hb e=>?_⟩;rw[qY]at hb;subst hb;subst e;exact hm ha)
   exact⟨r,by omega,b,c⟩
theorem Yi{x:Mo}{N:Nat}(h:OkX x N){s:Nat}(hs:s<N):∃ r,x.path s=its x s r/\∀ k,∃ j,j<r/\it x k s=it x j s/\j<=k:=by
 obtain⟨r,_,b,c⟩:=kw h hs (N+1) 0 (by omega) (by simp[its]);refine⟨r,?_,?_⟩
 .unfold Mo.path;rw[h.len];exact b
 .obtain ⟨j,hj,e⟩:=qq.1 c
  rw[zS]at hj;intro k;induction k using Nat.strongRecOn with
  |_ k ih =>
   by_cases hk:k<r
   .exact ⟨k,hk,rfl,qs _⟩
   .have e1:it x k s=it x (k-r+j) s:=by
     have:k=(k-r)+r:=by omega
     rw[this,UO,<-e,<-UO];congr 1;omega
    obtain⟨i,hi,e2,hle⟩:=ih (k-r+j) (by omega);exact⟨i,hi,by rw[e1,e2],by omega⟩
theorem JV{α β:Type}{g:α->XE β}{b:α->β}:∀{l:List α},(∀ a,a∈l->g a = .ok (b a))->mapX g l = .ok (l.map b)
 | [],_=>rfl
 |a :: l,h=>by
  rw[mapX,h a (zW ..),JV fun y hy=>h y (zD _ hy)];rfl
def unt(f g:Nat->Bool):List Nat->Bool->Bool->Bool
 | [],d,_=>d
 |s :: l,d,q=>unt f g l (d||(g s&&!q)) (q||!f s)
theorem JW{F G:Nat->XE Bool}{f g:Nat->Bool}:∀{l:List Nat} (d q:Bool),(∀ s,s∈l->F s = .ok (f s))->(∀ s,s∈l->G s = .ok (g s))->untX F G l d q = .ok (unt f g l d q)
 | [],d,q,_,_=>rfl
 |s :: l,d,q,h1,h2=>by
  rw[untX,h1 s (zW ..),qO,h2 s (zW ..),qO,JW _ _ (fun y hy=>h1 y (zD _ hy)) (fun y hy=>h2 y (zD _ hy))];rfl
theorem kx{f g:Nat->Bool}:∀{l:List Nat} (d q:Bool),unt f g l d q=true↔d=true\/(q=false/\∃ i,∃ h:i<l.length,g l[i]=true/\∀ j,∀ h':j<i,f (l[j]'(by omega))=true)
 | [],d,q=>by simp[unt]
 |s :: l,d,q=>by
  rw[unt,kx];constructor
  .rintro (h|⟨h,i,hi,h1,h2⟩)
   .rw [Bool.or_eq_true]at h
    rcases h with h|h
    .exact .inl h
    .rw [Bool.and_eq_true]at h
     exact .inr ⟨by simpa using h.2,0,by simp,by simpa using h.1,fun j hj=>by omega⟩
   .rw [Bool.or_eq_false_iff]at h
    refine .inr ⟨h.1,i+1,by simpa using hi,by simpa using h1,fun j hj=>?_⟩;cases j with
    |zero=>simpa using h.2
    |succ j=>simpa using h2 j (by omega)
  .rintro (h|⟨h,i,hi,h1,h2⟩)
   .exact .inl (by rw[h];rfl)
   .cases i with
    |zero=>exact .inl (by rw[h];simp at h1;rw[h1];simp)
    |succ i =>
     refine .inr ⟨?_,i,by simpa using hi,by simpa using h1,fun j hj=>by simpa using h2 (j+1) (by omega)⟩;have:=h2 0 (by omega);simp at this;rw[h,this];rfl
theorem JY{x:Mo}{N:Nat}(h:OkX x N){s:Nat}(hs:s<N)(f g:Nat->Bool):unt f g (x.path s) false false=true↔∃ k,g (it x k s)=true/\∀ j,j<k->f (it x j s)=true:=by
 obtain⟨r,e,hr⟩:=Yi h hs;rw[kx,e];constructor
 .rintro (h|⟨_,i,hi,h1,h2⟩)
  .cases h
  .refine ⟨i,by simpa[its] using h1,fun j hj=>by simpa[its] using h2 j hj⟩
 .rintro ⟨k,h1,h2⟩
  obtain⟨j,hj,e2,hle⟩:=hr k;refine .inr ⟨rfl,j,by simpa[its] using hj,by simpa[its,e2] using h1,fun i hi=>by simpa[its] using h2 i (by omega)⟩
theorem ky{x:Mo}{N:Nat}(h:OkX x N){s:Nat}(hs:s<N)(f:Nat->Bool):((x.path s).map f).all id=true↔∀ k,f (it x k s)=true:=by
 obtain⟨r,e,hr⟩:=Yi h hs;rw[e,qC];constructor
 .intro h1 k
  obtain⟨j,hj,e2,_⟩:=hr k;rw[e2];exact h1 _ (qq.2 ⟨_,qq.2 ⟨j,zS.2 hj,rfl⟩,rfl⟩)
 .intro h1 b hb
  obtain⟨t,ht,rfl⟩:=qq.1 hb;obtain⟨j,_,rfl⟩:=qq.1 ht;exact h1 j
theorem JZ{x:Mo}{N:Nat}(h:OkX x N){s:Nat}(hs:s<N)(f:Nat->Bool):((x.path s).map f).any id=true↔∃ k,f (it x k s)=true:=by
 obtain⟨r,e,hr⟩:=Yi h hs;rw[e,List.any_eq_true];constructor
 .rintro ⟨b,hb,h1⟩
  obtain⟨t,ht,rfl⟩:=qq.1 hb;obtain⟨j,_,rfl⟩:=qq.1 ht;exact⟨j,h1⟩
 .rintro ⟨k,h1⟩
  obtain⟨j,hj,e2,_⟩:=hr k;rw[e2]at h1;exact⟨_,qq.2 ⟨_,qq.2 ⟨j,zS.2 hj,rfl⟩,rfl⟩,h1⟩
end E7
namespace EL
open E1 E3
theorem J0(x:Mo)(hl:0<=x.m.loop)(hN:x.m.states.length<=1000000)(s:Nat)(hs:s<x.m.states.length):qj qc 40 [eMd x.m,aI s] (aI (x.nx s:Nat)):=by
 have wl:ql.wrap ((x.m.states.length:Int)-1)=(x.m.states.length:Int)-1:=qi (by omega) (by omega);have w1:ql.wrap ((s:Int)+1)=(s:Int)+1:=qi (by omega) (by omega);unfold Mo.nx;refine qSQ call40 func40 rfl {} ?_;by_cases hlt:s+1<x.m.states.length
 .rw [if_pos hlt]
  have a1:(s:Int)<(x.m.states.length:Int)-1:=by omega
  simp[go_sem,wl,w1,a1];exact .hf _ (HF.sc _)
 .rw [if_neg hlt]
  have a1:¬(s:Int)<(x.m.states.length:Int)-1:=by omega
  have a2:(s:Int)=(x.m.states.length:Int)-1:=by omega
  have a3:((x.m.loop.toNat:Nat):Int)=x.m.loop:=by omega
  have a4:(1:Int)<=x.m.states.length:=by omega
  rw[a3];simp[go_sem,wl,w1,a1,a2,a4];exact .hf _ (HF.sc _)
theorem qcS(n:Int)(h0:0<=n)(h1:n<=20)(k:Nat)(hk:k<=3):qj qc 77 [aI n,aI k] (aI (n ^ k)):=by
 refine qSQ call77 func77 rfl {} ?_;simp[go_sem];refine qn.up k (fun i st=>st.tm 0=aI n/\st.tm 5=aI (n ^ i)/\st.tm 6=aI k/\st.tm 7=aI i/\st.mu=[]) ?_ ?_
 .simp [go_sem]
 rintro i st hi ⟨e0,e5,e6,e7,hm⟩;by_cases hlt:i<k
 .have hp:=JQ h0 h1 (i+1) (by omega)
  have w1:ql.wrap ((i:Int)+1)=(i:Int)+1:=qi (by omega) (by omega);rw[Int.pow_succ]at hp;have w2:ql.wrap (n ^ i*n)=n ^ i*n:=qi (by omega) (by omega);simp[go_sem,e0,e5,e6,e7,hm,hlt,w1,w2];rw[Int.pow_succ]
 .have hge:i=k:=by omega
  subst hge;simp[go_sem,e0,e5,e6,e7,hm];exact .hf _ (HF.sc _)
theorem idenU(n:Nat)(hn:n<=20):qj qc 38 [aI n] (eRel (idR n)):=by
 refine qSQ call38 func38 rfl {} ?_;simp[go_sem];refine qn.keep (fun m st=>∃ k av rest,m=n-k/\k<=n/\st.tm 0=aI n/\st.tm 2 = .ptr 0 0/\st.tm 3 = .ptr 1 0/\st.tm 6=aI n/\st.tm 7=aI (k:Nat)/\st.mu=[.arr [aI 0,.lst true []],.arr [aI 2,av]]++rest/\OwnF 2 ([.dead,.dead]++rest) 1 av (((qu k).map fun x:Nat=>(x:Int)*n+x).map rI)) n ?_ ?_
 .exact ⟨0,.lst true [],[],by omega,by omega,by simp[go_sem],by simp[go_sem],by simp[go_sem],by simp[go_sem],by simp[go_sem],by simp[go_sem],by simpa using OwnF.nil (by simp)⟩
 rintro m st ⟨k,av,rest,rfl,hk,e0,e2,e3,e6,e7,hm,ho⟩;have ho:=ho.low (low:=[.dead,.dead]) (low':=[.arr [aI 0,.lst true []],.arr [aI 2,av]]) rfl;by_cases hlt:k<n
 .have hp:0<=(k:Int)*n/\(k:Int)*n<=400:=⟨Int.mul_nonneg (by omega) (by omega),by have:(k:Int)*n<=20*20:=jt (by omega) (by omega) (by omega) (by omega);omega⟩
  have w1:ql.wrap ((k:Int)*n)=(k:Int)*n:=qi (by omega) (by omega);have w2:ql.wrap ((k:Int)*n+k)=(k:Int)*n+k:=qi (by omega) (by omega);have w3:ql.wrap ((k:Int)+1)=(k:Int)+1:=qi (by omega) (by omega);simp[go_sem,e0,e2,e3,e6,e7,hlt,hm,w1,w2,w3];refine qF.intsL (low:=[.arr [aI 0,.lst true []],.arr [aI 2,av]]) (e:=3) (bt:=8) (z:=0) (xs:=(qu k).map fun x:Nat=>(x:Int)*n+x) (ys:=[(k:Int)*n+k]) (by simp[go_sem]) (by simp[go_sem]) (by simp[go_sem]) (by omega) ho (by simp[qI]) (by simp;omega) ?_;intro av' rest' ho';simp[go_sem,e0,e2,e3,e6,e7,hlt,w1,w2,w3,ho'.cells,ho'.one];refine Keep.loop (n-(k+1)) (by omega) ⟨k+1,av',rest',rfl,by omega,by simp[go_sem,e0],by simp[go_sem,e2],by simp[go_sem,e3],by simp[go_sem,e6],by simp[go_sem],by simp[go_sem],?_⟩;rw[List.range_succ,zt];simpa using ho'.low (low':=[.dead,.dead]) rfl
 .have hge:k=n:=by omega
  subst hge;simp[go_sem,e0,e2,e3,e6,e7,hlt,hm,ho.one];exact Rd.rel (r:=idR k) (ho.low (low:=[.arr [aI 0,.lst true []],.arr [aI 2,av]]) (low':=[.arr [aI 2,av],.arr [aI 2,av]]) rfl).rdI
end EL
namespace EJ
open E1
def jo{β:Type}(p:β->β->Bool):β->List β->List β
 |_,[]=>[]
 |x,y :: l=>if p y x=true then jo p y l else y :: jo p y l
def cmpc{β:Type}(p:β->β->Bool):List β->List β
 | []=>[]
 |x :: l=>x :: jo p x l
theorem kz{β:Type}(p:β->β->Bool):∀(l:List β) (x y:β),jo p x (l++[y])=jo p x l++(if p y ((x :: l).getLast (by simp))=true then [] else [y])
 | [],x,y=>by
  by_cases hp:p y x=true<;>simp[jo,hp]
 |z :: l,x,y=>by
  have ih:=kz p l z y;have e:(x :: z :: l).getLast (by simp)=(z :: l).getLast (by simp):=List.getLast_cons (by simp);simp only[yY,jo,e,ih];split
  .rfl
  .rfl
theorem kA{β:Type}(p:β->β->Bool)(l:List β)(k:Nat)(h1:1<=k)(h2:k<l.length):cmpc p (l.take (k+1))=cmpc p (l.take k)++(if p l[k] (l[k-1]'(by omega))=true then [] else [l[k]]):=by
 have htk:l.take (k+1)=l.take k++[l[k]]:=by rw[List.take_add_one,qv h2];rfl
 have hlast:∀(q:l.take k≠[]),(l.take k).getLast q=l[k-1]'(by omega):=by
  intro q;rw[List.getLast_eq_getElem,List.getElem_take];congr 1;simp;omega
 rw[htk];cases hq:l.take k with
 |nil =>
  have hlen:=congrArg List.length hq;rw[vo,List.length_nil]at hlen;omega
 |cons x r =>
  have:=hlast (by rw[hq];simp);simp only[hq]at this;simp only[yY,cmpc,kz,this]
abbrev eqI:Int->Int->Bool:=fun y x=>decide (y=x)
theorem UQ:∀(l:List Int) (x:Int),(x :: l).Pairwise (·<=·)->z8 (x :: jo eqI x l)/\∀ t,t∈x :: jo eqI x l↔t∈x :: l
 | [],x,_=>⟨List.pairwise_singleton _ _,fun t=>Iff.rfl⟩
 |y :: l,x,h=>by
  obtain⟨h1,h2⟩:=vG.1 h;have hxy:=h1 y (zW ..);by_cases e:y=x
  .have e2:jo eqI x (y :: l)=jo eqI y l:=by simp[jo,e]
   rw[e2,e];have hx:(x :: l).Pairwise (·<=·):=by rw[e]at h2;exact h2
   obtain⟨i1,i2⟩:=UQ l x hx;refine⟨i1,fun t=>?_⟩;rw[i2];simp
  .have e2:jo eqI x (y :: l)=y :: jo eqI y l:=by simp[jo,e]
   rw[e2];obtain⟨i1,i2⟩:=UQ l y h2;refine⟨vG.2 ⟨fun t ht=>?_,i1⟩,fun t=>?_⟩
   .rcases qz.1 ((i2 t).1 ht) with rfl|ht
    .omega
    .have:=(vG.1 h2).1 t ht;omega
   .rw [qz,i2,qz (l:=y :: l)]
theorem qcT(l:List Int)(h:l.Pairwise (·<=·)):z8 (cmpc eqI l)/\∀ t,t∈cmpc eqI l↔t∈l:=by
 cases l with
 |nil=>exact⟨List.Pairwise.nil,fun t=>Iff.rfl⟩
 |cons x l=>exact UQ l x h
theorem qcU(l:List Int):(srtI l).Pairwise (·<=·):=by
 have:=List.pairwise_mergeSort (le:=fun x y:Int=>decide (x<=y)) (fun a b c h1 h2=>by simp at *;omega) (fun a b=>by simp;omega) l;exact this.imp fun h=>by simpa using h
theorem qcV(l:List Int)(t:Int):t∈srtI l↔t∈l:=(List.mergeSort_perm l _).mem_iff
theorem qcW(l:List Int):cmpc eqI (srtI l)=ofL l:=by
 obtain⟨h1,h2⟩:=qcT _ (qcU l);obtain⟨h3,h4⟩:=JS l;exact kh h1 h3 fun t=>by rw[h2,h4,qcV]
end EJ
namespace EM
theorem sortE{mu:Mu}{b:Nat}{zs:List Int}(hc:mu[b]?=some (.arr (zs.map aI)))(hl:zs.length<=1000000000) :
  qX qc 142 [.sl b 1 0 zs.length] mu fun e m=>e = .ret (.tup [])/\m=mu.set b (.arr ((srtI zs).map aI)):=by
 have:=qcD (P:=qc) call142 (fun blk off cap zs w h1 h2 h3=>Tryz.slices_Sort_int blk off cap zs w h1 h2 h3) (mu:=mu) (b:=b) (off:=0) (cells:=zs.map aI) (zs:=zs) hc
  (fun k n h=>by rw[yE,zj,h];rfl) (by omega) (by simp)
 have e:putCells (zs.map aI) 0 ((srtI zs).map fun n => .sc (.int .i64 n))=(srtI zs).map aI:=by
  rw[y5 _ _ _ (by simp[Yd])];simp[Yd]
 rw[e]at this;exact this
end EM
end Go.Proofs.YtkglmpmlfjogkaaGreatDoor
namespace Go.Ev
open Go Go.RowKit
@[go_sem ↓] theorem ql0(P:Program)(pl:Pol)(det:Bool)(dst:Option Tmp)(ev:Operand->AV)(mu:Mu)(K Kp:AV->Mu->Prop)(l:List Operand)(ats:Array TypeId):qy P pl det dst (.call ⟨.builtin .clear,l.toArray,ats⟩) ev mu K Kp=wr P mu .clear ats (evs ev l) K:=eqS rfl
theorem qcX{P:Program}{mu:Mu}{K:AV->Mu->Prop}{t e:TypeId}{sz bt b off len:Nat}{cells:List AV}{zv:AV}(hs:qN P t=some (e,sz,bt))(hz:qB P e=some zv)(hz1:zv.cells.length=sz)(hz2:zv.cells.all AV.one=true)(hz0:sz≠0)
  (hc:mu[b]?=some (.arr cells)) (hl:off+len*sz<=cells.length) (hp:0<len) (k:K (.tup []) (mu.set b (.arr (putCells cells off ((qu (len*sz)).map fun i=>zv.cells.getD (i % sz) .any))))):wr P mu .clear #[t] [.sl b sz off len] K:=
 ⟨_,_,.clear hs hz hz1 hz2 hz0 hc hl hp,k⟩
end Go.Ev
namespace Go.Proofs.YtkglmpmlfjogkaaGreatDoor
open Go Go.Ev Go.Proofs Tryz
namespace EN
open EJ
theorem UR{mu:Mu}{b:Nat}{c:Cell}(h:mu[b]?=some c):mu.set b c=mu:=by
 obtain⟨h1,h2⟩:=qk.1 h;rw[<-h2];simp
theorem J1(l:List Int)(i:Nat)(h:i<l.length):List.take 1 (List.drop i (l.map aI))=[aI l[i]]:=by
 rw[zi (by simpa using h)];simp
theorem qcY(mu:Mu)(b:Nat)(ms:List Int)(hl:ms.length<=1000000)(hb:mu[b]?=some (.arr (ms.map aI))) :
  qX qc 143 [.sl b 1 0 ms.length] mu fun e m=>∃ cells,e = .ret (.sl b 1 0 (cmpc eqI ms).length)/\m=mu.set b (.arr cells)/\cells.length=ms.length/\cells.take (cmpc eqI ms).length=(cmpc eqI ms).map aI:=by
 refine qSW call143 func143 rfl {} ?_;simp[go_sem];by_cases h2:ms.length<2
 .have hc:cmpc eqI ms=ms:=by
   match ms,h2 with
   | [],_=>rfl
   | [x],_=>rfl
   |_ :: _ :: _,h=>simp only[zO]at h;omega
  simp[go_sem,show (ms.length:Int)<2 by omega];rw[hc];exact⟨rfl,ms.map aI,(UR hb).symm,by simp,by rw[zX (by simp)]⟩
 simp[go_sem,show ¬(ms.length:Int)<2 by omega];refine qn.keep (fun m st=>∃ k,m=ms.length-k/\1<=k/\k<=ms.length/\st.tm 0 = .sl b 1 0 ms.length/\st.tm 3=aI (k:Nat)/\st.mu=mu/\cmpc eqI (ms.take k)=ms.take k) (ms.length-1) ?_ ?_
 .refine ⟨1,by omega,by omega,by omega,by simp[go_sem],by simp[go_sem],by simp[go_sem],?_⟩
  match ms,h2 with
  | [],h=>simp at h
  |x :: l,_=>simp[cmpc,jo]
 rintro m st ⟨k,rfl,hk1,hk,e0,e3,hm,hi⟩;by_cases hlt:k<ms.length
 .have hw:ql.wrap ((k:Int)-1)=((k-1:Nat):Int):=by rw[qi (by omega) (by omega)];omega
  have hkk:k-1<ms.length:=by omega
  have r1:=J1 ms k hlt;have r2:=J1 ms (k-1) hkk;have g1:k+1<=ms.length:=hlt;have g2:k-1+1<=ms.length:=hkk;have hsucc:=kA eqI ms k hk1 hlt;rw[hi]at hsucc;simp[go_sem,e0,e3,hm,hlt];refine qg.intro (by kernel_rfl) ?_;by_cases hp:ms[k]=ms[k-1]
  .simp [go_sem,e0,e3,hm,hlt,hb,hw,hkk,hp,r1,r2,g1,g2]
   rw[if_pos (by simpa using hp),zl]at hsucc;simp[go_sem,e0,e3,hm,hlt,hk];refine qn.keep (fun m2 st2=>∃(j i:Nat) (cur:List Int),m2=ms.length-(k+j)/\1<=j/\k+j<=ms.length/\st2.tm 0 = .sl b 1 0 ms.length/\st2.tm 3=aI (i:Nat)/\st2.tm 4 = .sl b 1 k (ms.length-k)/\st2.tm 5=aI (j:Nat)/\cur.length=ms.length/\st2.mu=mu.set b (.arr (cur.map aI))/\i=(cmpc eqI (ms.take (k+j))).length/\i<=k+j-1/\cur.take i=cmpc eqI (ms.take (k+j))/\cur.drop (k+j-1)=ms.drop (k+j-1)) (ms.length-(k+1)) ?_ ?_
   .refine ⟨1,k,ms,by omega,by omega,by omega,by simp[go_sem,e0],by simp[go_sem,e3],by simp[go_sem],by simp[go_sem],rfl,?_,?_,by omega,?_,rfl⟩
    .simp [go_sem,hm];exact(UR hb).symm
    .rw [hsucc,vo];omega
    .exact hsucc.symm
   rintro m2 st2 ⟨j,i,cur,rfl,hj1,hj,f0,f3,f4,f5,hcl,hm2,hil,hi2,hct,hcd⟩;have hbl:b<mu.length:=(qk.1 hb).1;by_cases hjl:j<ms.length-k
   .have hkj:k+j<ms.length:=by omega
    have c1:cur[k+j]'(by omega)=ms[k+j]:=by
     have:=congrArg (fun l=>l[1]?) hcd;simp only[yX]at this;rw[show k+j-1+1=k+j by omega,qv (by omega),qv (by omega)]at this;exact Option.some.inj this
    have c2:cur[k+j-1]'(by omega)=ms[k+j-1]:=by
     have:=congrArg (fun l=>l[0]?) hcd;simp only[yX,Nat.add_zero]at this;rw[qv (by omega),qv (by omega)]at this;exact Option.some.inj this
    have r1:=J1 cur (k+j) (by omega);have r2:List.take 1 (List.drop (k+(j-1)) (cur.map aI))=[aI (ms[k+j-1]'(by omega))]:=by rw[show k+(j-1)=k+j-1 by omega,J1 cur (k+j-1) (by omega),c2]
    rw[c1]at r1;have hw2:ql.wrap ((j:Int)-1)=((j-1:Nat):Int):=by rw[qi (by omega) (by omega)];omega
    have hw3:ql.wrap ((j:Int)+1)=((j+1:Nat):Int):=by rw[qi (by omega) (by omega)];omega
    have g3:j-1<ms.length-k:=by omega
    have g4:k+j+1<=cur.length:=by omega
    have g5:k+(j-1)+1<=cur.length:=by omega
    have hs2:=kA eqI ms (k+j) (by omega) hkj;have hd1:cur.drop (k+j)=ms.drop (k+j):=by
     have:=congrArg (List.drop 1) hcd;rw[List.drop_drop,List.drop_drop,show k+j-1+1=k+j by omega]at this;exact this
    simp[go_sem,f0,f3,f4,f5,hm2,hjl];refine qg.intro (by kernel_rfl) ?_;by_cases hp2:ms[k+j]=ms[k+j-1]
    .rw [if_pos (by simpa using hp2),zl]at hs2
     simp[go_sem,f0,f3,f4,f5,hm2,hjl,hbl,r1,r2,hw2,hw3,g3,g4,g5,hp2];refine Keep.loop (ms.length-(k+(j+1))) (by omega) ⟨j+1,i,cur,rfl,by omega,by omega,by simp[go_sem,f0],by simp[go_sem,f3],by simp[go_sem,f4],by simp[go_sem,hw3],hcl,by simp[go_sem],?_,by omega,?_,?_⟩
     .rw [show k+(j+1)=k+j+1 by omega,hs2];exact hil
     .rw [show k+(j+1)=k+j+1 by omega,hs2];exact hct
     .rw [show k+(j+1)-1=k+j by omega];exact hd1
    .rw [if_neg (by simpa using hp2)]at hs2
     have hii:i<ms.length:=by omega
     have hic:i+1<=cur.length:=by omega
     have hic2:i<cur.length:=by omega
     have hw4:ql.wrap ((i:Int)+1)=((i+1:Nat):Int):=by rw[qi (by omega) (by omega)];omega
     simp[go_sem,f0,f3,f4,f5,hm2,hjl,hbl,r1,r2,hw2,hw3,hw4,g3,g4,g5,hp2,hii,hic,hic2];refine Keep.loop (ms.length-(k+(j+1))) (by omega) ⟨j+1,i+1,cur.set i ms[k+j],rfl,by omega,by omega,by simp[go_sem,f0],by simp[go_sem,hw4],by simp[go_sem,f4],by simp[go_sem,hw3],by simp[hcl],?_,?_,by omega,?_,?_⟩
     .simp [go_sem,List.map_set]
     .rw [show k+(j+1)=k+j+1 by omega,hs2,zr];simp;omega
     .rw [show k+(j+1)=k+j+1 by omega,hs2,<-hct,List.take_add_one,za (by omega),List.take_set_of_le (by omega)];rfl
     .rw [show k+(j+1)-1=k+j by omega,List.drop_set_of_lt (by omega)];exact hd1
   .have hje:k+j=ms.length:=by omega
    rw[hje,zw]at hil hct;simp[go_sem,f0,f3,f4,f5,hm2,hjl,show i<ms.length by omega,show i<=ms.length by omega];refine qcX (e:=3) (bt:=8) (zv:=aI 0) (cells:=cur.map aI) (by simp[go_sem]) (by simp[go_sem]) rfl rfl (by omega) (by simp[hbl]) (by simp;omega) (by omega) ?_;have hZ:∀ zs:List AV,zs.length=ms.length-i->(putCells (cur.map aI) i zs).length=ms.length/\(putCells (cur.map aI) i zs).take i=(cur.map aI).take i:=by
     intro zs hz;rw[y5 _ _ _ (by simp;omega)];refine⟨by simp;omega,?_⟩;rw[zx,List.take_append,vo,Nat.min_eq_left (by simp;omega),Nat.sub_self,List.take_zero,zl,List.take_take,Nat.min_self]
    have hz:=hZ ((qu ((ms.length-i)*1)).map fun j=>(aI 0).cells.getD (j % 1) .any) (by simp);generalize putCells (cur.map aI) i _=Z at hz⊢;simp[go_sem,f0,f3,f4,f5,hm2,hjl,show i<ms.length by omega,show i<=ms.length by omega];refine⟨hil,Z,rfl,hz.1,?_⟩;rw[<-hil,hz.2,<-List.map_take,hct]
  .rw [if_neg (by simpa using hp)]at hsucc
   have htk:ms.take (k+1)=ms.take k++[ms[k]]:=by rw[List.take_add_one,qv hlt];rfl
   simp[go_sem,e0,e3,hm,hlt,hb,hw,hkk,hp,r1,r2,g1,g2];refine Keep.loop (ms.length-(k+1)) (by omega) ⟨k+1,rfl,by omega,by omega,by simp[go_sem,e0],?_,by simp[go_sem],by rw[hsucc,htk]⟩;simp[go_sem];exact qi (by omega) (by omega)
 .have hke:k=ms.length:=by omega
  subst hke;rw[zw]at hi;simp[go_sem,e0,e3,hm];rw[hi];exact⟨rfl,ms.map aI,(UR hb).symm,by simp,by rw[zX (by simp)]⟩
end EN
namespace E4
open E1
theorem qcZ(n k:Int)(h0:0<=n)(h1:n<=20):qj qc 75 [aI n,aI k] (aI (powI n k)):=by
 refine qSQ call75 func75 rfl {} ?_;simp[go_sem];refine qn.up (powN k) (fun i st=>st.tm 0=aI n/\st.tm 1=aI k/\st.tm 5=aI (n ^ i)/\st.tm 6=aI i/\st.mu=[]) ?_ ?_
 .simp [go_sem]
 rintro i st hi ⟨e0,e1,e5,e6,hm⟩;by_cases hlt:i<powN k
 .have ha:(i:Int)<k:=by unfold powN at hlt;omega
  have hb:(i:Int)<3:=by unfold powN at hlt;omega
  have hp:=JQ h0 h1 (i+1) (by omega);rw[Int.pow_succ]at hp;simp[go_sem,e0,e1,e5,e6,hm,ha,hb];refine⟨hlt,?_,qi (by omega) (by omega)⟩;rw[Int.pow_succ,qi (by omega) (by omega)]
 .have hge:i=powN k:=by omega
  by_cases ha:(i:Int)<k
  .have hb:¬(i:Int)<3:=by unfold powN at hlt;omega
   simp[go_sem,e0,e1,e5,e6,hm,ha,hb];rw[powI,hge];exact .hf _ (HF.sc _)
  .simp [go_sem,e0,e1,e5,e6,hm,ha]
   rw[powI,hge];exact .hf _ (HF.sc _)
theorem qc0(n:Int)(r:Rl)(hl:r.ts.length<=9223372036854775807):qj qc 31 [aI n,eRel r] (aB (jn n r)):=by
 refine qSQ call31 func31 rfl {} ?_;by_cases h1:n<0
 case pos =>
  simp[go_sem,h1,jn,show ¬ 0<=n by omega];exact .hf _ (HF.sc _)
 by_cases h2:12<n
 case pos =>
  simp[go_sem,h1,h2,jn,show ¬n<=12 by omega];exact .hf _ (HF.sc _)
 by_cases h3:r.ar<1
 case pos =>
  simp[go_sem,h1,h2,h3,jn,show ¬ 1<=r.ar by omega];exact .hf _ (HF.sc _)
 by_cases h4:3<r.ar
 case pos =>
  simp[go_sem,h1,h2,h3,h4,jn,show ¬r.ar<=3 by omega];exact .hf _ (HF.sc _)
 simp[go_sem,h1,h2,h3,h4];refine qn.up r.ts.length (fun k st=>st.tm 0=aI n/\st.tm 3 = .ip [aI r.ar,lI r.ts]/\st.tm 5=aI k/\st.mu=[]/\∀(i:Nat) (h:i<r.ts.length),i<k->0<=r.ts[i]/\r.ts[i]<powI n r.ar/\(0<i->r.ts[i-1]<r.ts[i])) ?_ ?_
 .simp [go_sem]
 rintro k st hk ⟨e0,e3,e5,hm,he⟩;by_cases hlt:k<r.ts.length
 .have bad1:¬(0<=r.ts[k]/\r.ts[k]<powI n r.ar)->jn n r=false:=by
   intro hb;have:r.ts.all (fun t=>decide (0<=t)&&decide (t<powI n r.ar))=false:=by
    rw[<-Bool.not_eq_true,qC];intro hall;have:=hall _ (qw hlt);simp at this;exact hb this
   simp only[jn,this,Bool.and_false,Bool.false_and]
  have bad2:0<k->¬(r.ts[k-1]<r.ts[k])->jn n r=false:=by
   intro hk hb;have:¬z8 r.ts:=fun h=>hb (qcO h (by omega) hlt)
   simp only[jn,this,decide_false,Bool.and_false,Bool.false_and]
  have hw:0<k->ql.wrap ((k:Int)-1)=((k-1:Nat):Int):=fun h=>by rw[qi (by omega) (by omega)];omega
  have next:0<=r.ts[k]->r.ts[k]<powI n r.ar->(0<k->r.ts[k-1]<r.ts[k])->k<r.ts.length/\ql.wrap ((k:Int)+1)=(k:Int)+1/\∀(i:Nat) (h:i<r.ts.length),i<k+1->0<=r.ts[i]/\r.ts[i]<powI n r.ar/\(0<i->r.ts[i-1]<r.ts[i]):=by
   intro n1 n2 n3;refine⟨hlt,qi (by omega) (by omega),fun i h hi=>?_⟩;rcases vj.1 hi with h2|h2
   .exact he i h h2
   .subst h2;exact⟨n1,n2,n3⟩
  simp[go_sem,e0,e3,e5,hm,hlt];refine qg.intro (by kernel_rfl) ?_;simp[go_sem,e0,e3,e5,hm,hlt];by_cases ha:r.ts[k]<0
  .simp [go_sem,e0,e3,e5,hm,hlt,ha]
   rw[bad1 (by omega)];exact .hf _ (HF.sc _)
  simp[go_sem,e0,e3,e5,hm,hlt,ha];refine qe.pure (qcZ n r.ar (by omega) (by omega)) (.cons (.hf (HF.sc _)) (.cons (.hf (HF.sc _)) .nil)) ?_;by_cases hb:powI n r.ar<=r.ts[k]
  .simp [go_sem,e0,e3,e5,hm,hlt,ha,hb]
   rw[bad1 (by omega)];exact .hf _ (HF.sc _)
  by_cases hk0:0<k
  .have hw:=hw hk0
   have hk1:k-1<r.ts.length:=by omega
   by_cases hc:r.ts[k]<=r.ts[k-1]
   .simp [go_sem,e0,e3,e5,hm,hlt,ha,hb,hk0,hw,hk1,hc]
    rw[bad2 hk0 (by omega)];exact .hf _ (HF.sc _)
   .simp [go_sem,e0,e3,e5,hm,hlt,ha,hb,hk0,hw,hk1,hc]
    exact(next (by omega) (by omega) (fun _=>by omega)).2
  .simp [go_sem,e0,e3,e5,hm,hlt,ha,hb,hk0]
   exact(next (by omega) (by omega) (fun _=>by omega)).2
 .have hge:k=r.ts.length:=by omega
  subst hge;have hall:r.ts.all (fun t=>decide (0<=t)&&decide (t<powI n r.ar))=true:=by
   rw[qC];intro t ht;obtain⟨i,hi,rfl⟩:=List.getElem_of_mem ht;have:=he i hi hi;simp;omega
  have hso:z8 r.ts:=qcN fun i hi=>by simpa using (he (i+1) hi hi).2.2 (by omega)
  simp[go_sem,e0,e3,e5,hm];simp only[jn,hall,hso,show 0<=n by omega,show n<=12 by omega,show 1<=r.ar by omega,show r.ar<=3 by omega];exact .hf _ (HF.sc _)
theorem kB(a b:List Int)(ha:a.length<=9223372036854775807):qj qc 152 [lI a,lI b] (aB (decide (a=b))):=by
 refine qSQ call152 func152 rfl {} ?_;by_cases hn:a.length=b.length
 case neg =>
  simp[go_sem,hn];rw[decide_eq_false (by rintro rfl;exact hn rfl)];exact .hf _ (HF.sc _)
 simp[go_sem,hn];refine qn.up a.length (fun k st=>st.tm 0=lI a/\st.tm 1=lI b/\st.tm 12=aI a.length/\st.tm 13=aI k/\st.mu=[]/\∀(i:Nat) (h:i<a.length) (h':i<b.length),i<k->a[i]=b[i]) ?_ ?_
 .simp [go_sem,hn]
 rintro k st hk ⟨h0,h1,h12,h13,hm,he⟩;by_cases hlt:k<a.length
 .have hlt':k<b.length:=by omega
  simp[go_sem,h0,h1,h12,h13,hm,hlt]
  try refine qg.intro (by kernel_rfl) ?_
  by_cases hb:a[k]=b[k]
  .simp [go_sem,h0,h1,h12,h13,hm,hlt,hlt',hb]
   refine⟨qi (by omega) (by omega),fun i h h' hi=>?_⟩;rcases vj.1 hi with h2|h2
   .exact he i h h' h2
   .subst h2;exact hb
  .simp [go_sem,h0,h1,h12,h13,hm,hlt,hlt',hb]
   rw[decide_eq_false (by rintro rfl;simp at hb)];exact .hf _ (HF.sc _)
 .have hge:k=a.length:=by omega
  subst hge;simp[go_sem,h0,h1,h12,h13,hm];rw[decide_eq_true (List.ext_getElem hn fun i h h'=>he i h h' h)];exact .hf _ (HF.sc _)
theorem qc1(a b:Rl)(hl:a.ts.length<=9223372036854775807):qj qc 85 [eRel a,eRel b] (aB (decide (a=b))):=by
 have hab:(a=b)=(a.ar=b.ar/\a.ts=b.ts):=by cases a;cases b;simp
 refine qSQ call85 func85 rfl {} ?_;by_cases h1:a.ar=b.ar
 case neg =>
  simp[go_sem,h1,hab];exact .hf _ (HF.sc _)
 simp[go_sem,h1];refine qe.pure (kB a.ts b.ts hl) (.cons (.hf (yh _)) (.cons (.hf (yh _)) .nil)) ?_;simp[go_sem,h1,hab];exact .hf _ (HF.sc _)
theorem US(a b:Rl)(hl:a.ts.length<=4611686018427387904):qj qc 20 [eRel a,eRel b] (aB (decide (a=b))):=by
 have hab:(a=b)=(a.ar=b.ar/\a.ts=b.ts):=by cases a;cases b;simp
 refine qSQ call20 func20 rfl {} ?_;by_cases h1:a.ar=b.ar
 case neg =>
  simp[go_sem,h1,hab];exact .hf _ (HF.sc _)
 by_cases h2:a.ts.length=b.ts.length
 case neg =>
  simp[go_sem,h1,h2];rw[decide_eq_false (by rintro rfl;exact h2 rfl)];exact .hf _ (HF.sc _)
 simp[go_sem,h1,h2];refine qn.up a.ts.length (fun k st=>st.tm 2 = .ip [aI a.ar,lI a.ts]/\st.tm 3 = .ip [aI b.ar,lI b.ts]/\st.tm 5=aI k/\st.mu=[]/\∀(i:Nat) (h:i<a.ts.length) (h':i<b.ts.length),i<k->a.ts[i]=b.ts[i]) ?_ ?_
 .simp [go_sem,h1]
 rintro k st hk ⟨e2,e3,e5,hm,he⟩;by_cases hlt:k<a.ts.length
 .have hlt':k<b.ts.length:=by omega
  by_cases hb:a.ts[k]=b.ts[k]
  .simp [go_sem,e2,e3,e5,hm,hlt]
   refine qg.intro (by kernel_rfl) ?_;simp[go_sem,e2,e3,e5,hm,hlt,hlt',hb];refine⟨qi (by omega) (by omega),fun i h h' hi=>?_⟩;rcases vj.1 hi with h2|h2
   .exact he i h h' h2
   .subst h2;exact hb
  .simp [go_sem,e2,e3,e5,hm,hlt]
   refine qg.intro (by kernel_rfl) ?_;simp[go_sem,e2,e3,e5,hm,hlt,hlt',hb];rw[decide_eq_false (by rintro rfl;exact hb rfl)];exact .hf _ (HF.sc _)
 .have hge:k=a.ts.length:=by omega
  subst hge;simp[go_sem,e2,e3,e5,hm];rw[decide_eq_true (hab ▸ ⟨h1,List.ext_getElem h2 fun i h h'=>he i h h' h⟩)];exact .hf _ (HF.sc _)
end E4
namespace EO
open YS
def FnOk(P:Program)(fv:AV){α:Type}(enc:α->AV)(ok:α->Prop)(g:α->AV):Prop:=
 HF fv/\∃ fid first caps,fv = .fn (.func fid) first caps/\∀ x,ok x->∃ args',WKs (first++[enc x]++caps) args'/\qj P fid args' (g x)
theorem FnOk.call{P:Program}{fv:AV}{α:Type}{enc:α->AV}{ok:α->Prop}{g:α->AV}(h:FnOk P fv enc ok g){x:α}(hx:ok x){det:Bool}{mu:Mu}{K Kp:AV->Mu->Prop}(k:K (g x) mu):qe P det mu fv [enc x] K Kp:=by
 obtain⟨_,fid,first,caps,rfl,h⟩:=h;obtain⟨args',h1,h2⟩:=h x hx;exact .inl ⟨g x,.inl ⟨fid,first,caps,args',rfl,h2,.inl h1⟩,k⟩
def qt:AV->Option Nat
 | .sl b _ _ _=>some b
 |_=>none
def OwnI(mu:Mu)(s:AV)(l:List Int):Prop:=(s = .lst true []/\l=[])\/∃ b,s = .sl b 1 0 l.length/\mu[b]?=some (.arr (l.map aI))
def OwnV(mu:Mu)(s:AV)(l:List Int):Prop:=(s = .lst true []/\l=[])\/∃ b cells,s = .sl b 1 0 l.length/\mu[b]?=some (.arr cells)/\l.length<=cells.length/\cells.take l.length=l.map aI
theorem OwnI.v{mu:Mu}{s:AV}{l:List Int}(h:OwnI mu s l):OwnV mu s l:=by
 rcases h with h|⟨b,h1,h2⟩
 .exact .inl h
 .exact .inr ⟨b,_,h1,h2,by simp,by rw[zX (by simp)]⟩
theorem OwnV.one{mu:Mu}{s:AV}{l:List Int}(h:OwnV mu s l):s.one=true:=by
 rcases h with ⟨rfl,_⟩|⟨b,c,rfl,_⟩<;>rfl
theorem OwnV.cells{mu:Mu}{s:AV}{l:List Int}(h:OwnV mu s l):s.cells=[s]:=by
 rcases h with ⟨rfl,_⟩|⟨b,c,rfl,_⟩<;>rfl
theorem OwnV.same{mu mu':Mu}{s:AV}{l:List Int}(h:OwnV mu s l)(hs:∀ b,qt s=some b->mu'[b]?=mu[b]?):OwnV mu' s l:=by
 rcases h with h|⟨b,c,rfl,hc,h1,h2⟩
 .exact .inl h
 .exact .inr ⟨b,c,rfl,by rw[hs b rfl];exact hc,h1,h2⟩
theorem OwnI.same{mu mu':Mu}{s:AV}{l:List Int}(h:OwnI mu s l)(hs:∀ b,qt s=some b->mu'[b]?=mu[b]?):OwnI mu' s l:=by
 rcases h with h|⟨b,rfl,hc⟩
 .exact .inl h
 .exact .inr ⟨b,rfl,by rw[hs b rfl];exact hc⟩
theorem OwnV.lt{mu:Mu}{s:AV}{l:List Int}(h:OwnV mu s l){b:Nat}(hb:qt s=some b):b<mu.length:=by
 rcases h with ⟨rfl,_⟩|⟨b',c,rfl,hc,_⟩
 .cases hb
 .cases hb;exact(qk.1 hc).1
theorem OwnV.rd{mu:Mu}{s:AV}{l:List Int}(h:OwnV mu s l):Rd mu s (lI l):=by
 rcases h with ⟨rfl,rfl⟩|⟨b,cells,rfl,hc,h1,h2⟩
 .exact .wk _ true _ (.hf _ (HF.lst fun r hr=>by simp at hr))
 .refine .sl b 1 0 _ cells _ hc (by simpa using h1) (by simp) (fun x hx=>by
   obtain⟨l,_,rfl⟩:=qq.1 hx;rfl) (fun k x y hx hy=>?_)
  rw[yE]at hx;rw[JM,<-h2,yW]at hy;split at hy
  .rw [hx]at hy;cases hy
   have:x∈cells.take l.length:=by
    refine qS (i:=k) ?_;rw[yW,if_pos (by assumption)];exact hx
   rw[h2]at this;obtain⟨z,_,rfl⟩:=qq.1 this;exact .hf _ (HF.sc _)
  .exact absurd hy (by simp)
theorem qF.ownVs{P:Program}{mu:Mu}{t t' e bt:Nat}{s x:AV}{l ys:List Int}{z:Int}{K:AV->Mu->Prop}(hs:qN P t=some (e,1,bt))(hs':(qN P t').isSome=true)(hz:qB P e=some (aI z))
  (hb:bt<=16384) (ho:OwnV mu s l) (hx:qI mu x=some (ys.map rI)) (hl:l.length+ys.length<=4294967296)
  (k:∀ av mu',OwnI mu' av (l++ys)->(∀ i,i<mu.length->qt s≠some i->mu'[i]?=mu[i]?)->mu.length<=mu'.length->(∀ b,qt av=some b->b=mu.length)->K av mu'):qF P mu #[t,t'] s x K:=by
 refine .inl ⟨t,t',e,1,bt,ys.map rI,rfl,hs,hs',⟨_,hz,rfl,rfl⟩,by omega,hb,hx,uO ys,?_⟩;rcases ho with ⟨rfl,rfl⟩|⟨b,cells,rfl,hc,h1,h2⟩
 .refine .inl ⟨[],rfl,fun r hr=>by simp at hr,by simpa using hl,fun h=>?_,fun h=>?_⟩
  .have:ys=[]:=by simpa using h
   subst this;exact k _ _ (.inl ⟨rfl,rfl⟩) (fun _ _ _=>rfl) (qs _) (fun _ h=>by cases h)
  .refine k _ _ (.inr ⟨mu.length,by simp,by simp[JM]⟩) (fun i hi _=>?_) (by simp) (fun b h=>by cases h;rfl)
   rw[qr hi]
 .refine .inr ⟨b,l.length,cells,rfl,hc,by simpa using h1,by simpa using hl,?_⟩
  have e1:cells.take (l.length*1)++(ys.map rI).flatten=(l++ys).map aI:=by rw[Nat.mul_one,h2,zt,JM]
  have e2:l.length+(ys.map rI).length=(l++ys).length:=by simp
  rw[e1,e2];refine k _ _ (.inr ⟨mu.length,rfl,?_⟩) (fun i hi hne=>?_) (by simp) (fun b h=>by cases h;rfl)
  .rw [q6 (by simp)];simp
  .rw [qr (by simpa using hi),qK (fun h=>hne (by rw[h];rfl))]
theorem qF.ownV1{P:Program}{mu:Mu}{t t' e bt:Nat}{s:AV}{l:List Int}{x z:Int}{K:AV->Mu->Prop}(hs:qN P t=some (e,1,bt))(hs':(qN P t').isSome=true)(hz:qB P e=some (aI z))
  (hb:bt<=16384) (ho:OwnV mu s l) (hl:l.length+1<=4294967296)
  (k:∀ av mu',OwnI mu' av (l++[x])->(∀ i,i<mu.length->qt s≠some i->mu'[i]?=mu[i]?)->mu.length<=mu'.length->(∀ b,qt av=some b->b=mu.length)->K av mu'):qF P mu #[t,t'] s (.lst true [[aI x]]) K:=
 qF.ownVs (ys:=[x]) hs hs' hz hb ho rfl hl k
theorem sumG(l:List Int)(hl:l.length<=1000000)(hb:∀ k,0<=sumI (l.take k)/\sumI (l.take k)<=1000000):qj qc 162 [lI l] (aI (sumI l)):=by
 refine qSQ call162 func162 rfl {} ?_;simp[go_sem];refine qn.up l.length (fun k st=>st.tm 6=lI l/\st.tm 7=aI l.length/\st.tm 3=aI (sumI (l.take k))/\st.tm 8=aI k/\st.mu=[]) ?_ ?_
 .simp [go_sem,sumI]
 rintro k st hk ⟨e6,e7,e3,e8,hm⟩;by_cases hlt:k<l.length
 .have hs:=w7 l k hlt
  have hb':=hb (k+1);rw[hs]at hb';simp[go_sem,e6,e7,e3,e8,hm,hlt];exact⟨by rw[hs,qi (by omega) (by omega)],qi (by omega) (by omega)⟩
 .have hge:k=l.length:=by omega
  subst hge;simp[go_sem,e6,e7,e3,e8,hm];exact .hf _ (HF.sc _)
theorem UT(sc:Sc)(g:GSc sc):qj qc 97 [eSc sc] (aI (sumI sc.atoms)):=by
 refine qSQ call97 func97 rfl {} ?_;simp[go_sem];refine qe.pure (sumG _ (zz g.1 (by omega)) fun k=>by have:=g.sum k;omega) (.cons (.hf (yh _)) .nil) ?_;simp[go_sem];exact .hf _ (HF.sc _)
theorem qc2(sc:Sc)(g:GSc sc)(s:Nat)(hs:s<=sc.atoms.length):qj qc 234 [eSc sc,aI s] (aI (sumI (sc.atoms.take s))):=by
 refine qSQ call234 func234 rfl {} ?_;have hw:WKs [.lst false ((sc.atoms.map rI).take s)] [lI (sc.atoms.take s)] := .cons (by rw[<-List.map_take];exact .hf (yh _)) .nil;simp[go_sem,hs];refine⟨⟨_,_,⟨rfl,rfl⟩,(uO sc.atoms).ok⟩,?_⟩;refine qe.pure (sumG (sc.atoms.take s) (by simp;have:=g.1;omega) fun k=>by rw[List.take_take];have:=g.sum (min k s);omega) hw ?_;simp[go_sem];exact .hf _ (HF.sc _)
def jC{α:Type}(p:α->Bool):List α->Int->Int
 | [],_ => -1
 |x :: l,i=>if p x=true then i else jC p l (i+1)
theorem kC{α:Type}(p:α->Bool)(l:List α)(k:Nat)(i:Int)(h:k<l.length):jC p (l.drop k) i=if p l[k]=true then i else jC p (l.drop (k+1)) (i+1):=by
 rw[zi h,jC]
theorem UU{α:Type}(p:α->Bool):∀(l:List α) (i:Int),0<=i->decide (0<=jC p l i)=l.any p
 | [],i,h=>by simp[jC]
 |x :: l,i,h=>by
  rw[jC,List.any_cons];cases hp:p x with
  |true=>simp[h]
  |false=>simpa using UU p l (i+1) (by omega)
theorem qc3(xs:List Int)(y:Int)(hl:xs.length<=1000000000):qj qc 204 [lI xs,aI y] (aI (jC (fun x=>decide (x=y)) xs 0)):=by
 refine qSQ call204 func204 rfl {} ?_;simp[go_sem];refine qn.up xs.length (fun k st=>st.tm 0=lI xs/\st.tm 1=aI y/\st.tm 7=aI xs.length/\st.tm 8=aI k/\st.mu=[]/\jC (fun x=>decide (x=y)) (xs.drop k) k=jC (fun x=>decide (x=y)) xs 0) ?_ ?_
 .simp [go_sem]
 rintro k st hk ⟨e0,e1,e7,e8,hm,hi⟩;by_cases hlt:k<xs.length
 .rw [kC _ _ _ _ hlt]at hi
  by_cases hx:xs[k]=y
  .rw [if_pos (by simpa using hx)]at hi
   subst hx;simp[go_sem,e0,e1,e7,e8,hm,hlt];rw[<-hi];exact .hf _ (HF.sc _)
  .rw [if_neg (by simpa using hx)]at hi
   have hx':¬y=xs[k]:=fun h=>hx h.symm
   simp[go_sem,e0,e1,e7,e8,hm,hlt,hx'];exact⟨qi (by omega) (by omega),hi⟩
 .have hge:k=xs.length:=by omega
  subst hge;rw[zN]at hi;simp[go_sem,e0,e1,e7,e8,hm];rw[<-hi];exact .hf _ (HF.sc _)
theorem qc4(xs:List Int)(y:Int)(hl:xs.length<=1000000000):qj qc 176 [lI xs,aI y] (aB (decide (y∈xs))):=by
 refine qSQ call176 func176 rfl {} ?_;simp[go_sem];refine qe.pure (qc3 xs y hl) (.cons (.hf (yh _)) (.cons (.hf (HF.sc _)) .nil)) ?_;have e:decide (y∈xs)=decide (0<=jC (fun x=>decide (x=y)) xs 0):=by
  rw[UU _ _ _ (by omega),ji,List.any_eq_true];simp
 rw[e];simp[go_sem];exact .hf _ (HF.sc _)
abbrev lB(xs:List Bool):AV := .lst false (xs.map fun b=>[aB b])
theorem UV(xs:List Bool):HF (lB xs):=HF.lst fun r hr c hc=>by
 obtain⟨n,_,rfl⟩:=qq.1 hr;simp at hc;subst hc;exact HF.sc _
theorem qc5(xs:List Bool)(y:Bool)(hl:xs.length<=1000000000):qj qc 175 [lB xs,aB y] (aI (jC (fun x=>decide (x=y)) xs 0)):=by
 refine qSQ call175 func175 rfl {} ?_;simp[go_sem];refine qn.up xs.length (fun k st=>st.tm 0=lB xs/\st.tm 1=aB y/\st.tm 7=aI xs.length/\st.tm 8=aI k/\st.mu=[]/\jC (fun x=>decide (x=y)) (xs.drop k) k=jC (fun x=>decide (x=y)) xs 0) ?_ ?_
 .simp [go_sem]
 rintro k st hk ⟨e0,e1,e7,e8,hm,hi⟩;by_cases hlt:k<xs.length
 .rw [kC _ _ _ _ hlt]at hi
  by_cases hx:xs[k]=y
  .rw [if_pos (by simpa using hx)]at hi
   subst hx;simp[go_sem,e0,e1,e7,e8,hm,hlt];rw[<-hi];exact .hf _ (HF.sc _)
  .rw [if_neg (by simpa using hx)]at hi
   have hx':(y == xs[k])=false:=by simpa using fun h=>hx h.symm
   simp[go_sem,e0,e1,e7,e8,hm,hlt,hx'];exact⟨qi (by omega) (by omega),hi⟩
 .have hge:k=xs.length:=by omega
  subst hge;rw[zN]at hi;simp[go_sem,e0,e1,e7,e8,hm];rw[<-hi];exact .hf _ (HF.sc _)
theorem qc6(xs:List Bool)(y:Bool)(hl:xs.length<=1000000000):qj qc 124 [lB xs,aB y] (aB (decide (y∈xs))):=by
 refine qSQ call124 func124 rfl {} ?_;simp[go_sem];refine qe.pure (qc5 xs y hl) (.cons (.hf (UV _)) (.cons (.hf (HF.sc _)) .nil)) ?_;have e:decide (y∈xs)=decide (0<=jC (fun x=>decide (x=y)) xs 0):=by
  rw[UU _ _ _ (by omega),ji,List.any_eq_true];simp
 rw[e];simp[go_sem];exact .hf _ (HF.sc _)
end EO
namespace F1
open Y1 YF E3 EO
abbrev cMa(x:Mo):List AV:=cMd x.m++(cTS x.ts++[aI x.n])
abbrev eMa(x:Mo):AV := .ip (cMa x)
abbrev cPl(p:Pl):List AV:=[aI p.st,lPm p.env]
abbrev ePl(p:Pl):AV := .agg (cPl p)
theorem qc7(l:List (List Rl)):HF (lSt l):=HF.lst fun r hr c hc=>by
 obtain⟨n,_,rfl⟩:=qq.1 hr;simp at hc;subst hc;exact qbQ _
theorem kE(m:Md):∀ c,c∈cMd m->HF c:=by
 intro c hc;simp at hc;rcases hc with rfl|rfl|rfl|rfl
 .exact yh _
 .exact HF.sc _
 .exact qc7 _
 .exact HF.sc _
theorem yB(m:Md):HF (eMd m):=HF.agg (kE m)
theorem zq(x:Mo):HF (eMa x):=HF.ip fun c hc=>by
 rcases qU.1 hc with hc|hc
 .exact kE _ c hc
 .rcases qU.1 hc with hc|hc
  .exact K3 _ c hc
  .rw [qY]at hc;subst hc;exact HF.sc _
theorem J2(p:Pl):HF (ePl p):=HF.agg fun c hc=>by
 simp at hc;rcases hc with rfl|rfl
 .exact HF.sc _
 .exact yJ _
theorem wk3(x:Mo)(p:Pl)(n:Nd):WKs [eMa x,ePl p,eNd n] [eMa x,ePl p,eNd n] := .cons (.hf (zq x)) (.cons (.hf (J2 p)) (.cons (.hf (qH n)) .nil))
abbrev errV(e:Int):AV := .ifc 43 (aI e)
theorem qG(e:Int):HF (errV e):=HF.ifc (HF.sc _)
def endE:XE Rl->AEnd
 | .ok r => .ret (eRel r)
 | .error e => .pan (errV e)
def endN:XE Int->AEnd
 | .ok r => .ret (aI r)
 | .error e => .pan (errV e)
def endB:XE Bool->AEnd
 | .ok r => .ret (aB r)
 | .error e => .pan (errV e)
def end2:XE (Rl×Rl)->AEnd
 | .ok r => .ret (.tup [eRel r.1,eRel r.2])
 | .error e => .pan (errV e)
@[go_sem] theorem endE_ok(r:Rl):endE (.ok r) = .ret (eRel r):=rfl
@[go_sem] theorem endE_err(e:Int):endE (.error e) = .pan (errV e):=rfl
@[go_sem] theorem endN_ok(r:Int):endN (.ok r) = .ret (aI r):=rfl
@[go_sem] theorem endN_err(e:Int):endN (.error e) = .pan (errV e):=rfl
@[go_sem] theorem endB_ok(r:Bool):endB (.ok r) = .ret (aB r):=rfl
@[go_sem] theorem endB_err(e:Int):endB (.error e) = .pan (errV e):=rfl
@[go_sem] theorem end2_ok(r:Rl×Rl):end2 (.ok r) = .ret (.tup [eRel r.1,eRel r.2]):=rfl
@[go_sem] theorem end2_err(e:Int):end2 (.error e) = .pan (errV e):=rfl
theorem uo(e:Int):qL qc 110 [aI e] (.pan (errV e)):=by
 refine qT.of_sound ?_;refine qSW call110 func110 rfl {} ?_;simp[go_sem];exact⟨_,_,⟨rfl,rfl⟩,.hf _ (qG _)⟩
theorem wkI(e:Int):WKs [aI e] [aI e] := .cons (.hf (HF.sc _)) .nil
theorem J3(r:Rl)(e:Int):qL qc 163 [eRel r,aI e] (if e=0 then .ret (eRel r) else .pan (errV e)):=by
 refine qT.of_sound ?_;refine qSW call163 func163 rfl {} ?_;by_cases h:e=0
 .simp [go_sem,h]
  exact .hf _ (qR r)
 .simp [go_sem,h]
  refine qe.pans (uo e) (wkI e) ?_;simp[go_sem];exact .hf _ (qG _)
theorem UW(x:Mo)(g:GSc x.m.sc):qj qc 52 [eTS x.ts,eMd x.m] (eMa x):=by
 refine qSQ call52 func52 rfl {} ?_;simp[go_sem];refine qg.intro (by kernel_rfl) ?_;simp[go_sem];refine qe.pure (UT x.m.sc g) (.cons (.hf (jm _)) .nil) ?_;simp[go_sem];exact .hf _ (zq x)
theorem UX(mu:Mu)(b:Nat)(e:Int)(hb:mu[b]?=some (.arr [aI e])):z6 qc 51 [.ptr b 0] mu none fun mu'=>mu'=mu:=by
 refine z6.of_awp call51 func51 rfl ⟨_,_,_,_,rfl⟩ (jg (by kernel_rfl)) (by kernel_rfl) (by kernel_rfl) (pl:={}) ?_;simp[go_sem]
theorem UY(mu:Mu)(b:Nat)(y e:Int)(hb:mu[b]?=some (.arr [aI y])):z6 qc 51 [.ptr b 0] mu (some (errV e)) fun mu'=>mu'=mu.set b (.arr [aI e]):=by
 refine z6.of_awp call51 func51 rfl ⟨_,_,_,_,rfl⟩ (jg (by kernel_rfl)) (by kernel_rfl) (by kernel_rfl) (pl:={}) ?_;simp[go_sem,hb]
end F1
namespace EP
open E1 EO
theorem keyI:KeyT qc 3 (fun n:Int=>aI n) (fun _=>True):=by
 refine⟨fun a b _ _=>?_,fun a _=>by simp[go_sem]⟩;simp[go_sem]
theorem ya{α:Type}{l:List α}{n:Nat}(h:n<l.length):l.take (n+1)=l.take n++[l[n]]:=by rw[List.take_add_one,qv h];rfl
def cntK(f:Int->Int)(ts:List Int):List (Int×Int):=ts.foldl (fun m t=>setK (f t) ((getK (f t) m).getD 0+1) m) []
theorem kF(f:Int->Int)(ts:List Int)(t:Int):cntK f (ts++[t])=setK (f t) ((getK (f t) (cntK f ts)).getD 0+1) (cntK f ts):=by simp[cntK,wK]
theorem J4(f:Int->Int)(ts:List Int):∀ n,n<=ts.length->∀ k:Int,0<=(getK k (cntK f (ts.take n))).getD 0/\(getK k (cntK f (ts.take n))).getD 0<=n/\(0<(getK k (cntK f (ts.take n))).getD 0↔∃ t,t∈ts.take n/\f t=k)
 | 0,_,k=>by simp[cntK,getK]
 |n+1,h,k=>by
  obtain⟨h1,h2,h3⟩:=J4 f ts n (by omega) k;have hlt:n<ts.length:=by omega
  obtain⟨g1,g2,_⟩:=J4 f ts n (by omega) (f ts[n]);rw[ya hlt,kF,Qd];by_cases hk:k=f ts[n]
  .rw [if_pos hk]
   simp only[Option.getD_some];exact⟨by omega,by omega,fun _=>⟨ts[n],List.mem_append_right _ (qY.2 rfl),hk.symm⟩,fun _=>by omega⟩
  .rw [if_neg hk]
   refine⟨h1,by omega,h3.trans ⟨fun⟨t,ht,e⟩=>⟨t,yP _ ht,e⟩,fun⟨t,ht,e⟩=>?_⟩⟩;rcases qU.1 ht with ht|ht
   .exact ⟨t,ht,e⟩
   .rw [qY]at ht;subst ht;exact absurd e.symm hk
theorem kG(f:Int->Int)(ts:List Int)(k:Int):0<=(getK k (cntK f ts)).getD 0/\(0<(getK k (cntK f ts)).getD 0↔∃ t,t∈ts/\f t=k):=by
 have:=J4 f ts ts.length (qs _) k;rw[zw]at this;exact⟨this.1,this.2.2⟩
def grpK(m:Int)(ys:List Int):List (Int×List Int):=ys.foldl (fun g y=>setK (y / m) ((getK (y / m) g).getD []++[y % m]) g) []
theorem kH(m:Int)(ys:List Int)(y:Int):grpK m (ys++[y])=setK (y / m) ((getK (y / m) (grpK m ys)).getD []++[y % m]) (grpK m ys):=by simp[grpK,wK]
theorem J5(m:Int)(ys:List Int):∀ n,n<=ys.length->∀ k:Int,(getK k (grpK m (ys.take n))).getD []=((ys.take n).filter fun y=>decide (y / m=k)).map fun y=>y % m
 | 0,_,k=>by simp[grpK,getK]
 |n+1,h,k=>by
  have ih:=J5 m ys n (by omega);have hlt:n<ys.length:=by omega
  rw[ya hlt,kH,Qd,List.filter_append,zt];by_cases hk:k=ys[n] / m
  .rw [if_pos hk,Option.getD_some,<-hk,ih k]
   simp[hk]
  .rw [if_neg hk,ih k]
   have:¬ys[n] / m=k:=fun e=>hk e.symm
   simp[this]
theorem kI{β:Type}(q:Int->Int)(v:List (Int×β)->Int->β):∀(l:List Int) (g:List (Int×β)),(g.map Prod.fst).Nodup->((l.foldl (fun g y=>setK (q y) (v g y) g) g).map Prod.fst).Nodup
 | [],g,h=>h
 |y :: l,g,h=>kI q v l _ (KU h)
theorem qc8(m:Int)(ys:List Int):((grpK m ys).map Prod.fst).Nodup:=kI (fun y=>y / m) (fun g y=>(getK (y / m) g).getD []++[y % m]) ys [] (by simp)
theorem kJ{α β:Type}(k:Int)(v:α)(w:β):∀{es:List (Int×α)} {fs:List (Int×β)},es.map Prod.fst=fs.map Prod.fst->(setK k v es).map Prod.fst=(setK k w fs).map Prod.fst
 | [],[],_=>rfl
 |e :: es,f :: fs,h=>by
  simp only[yz,jV]at h;unfold setK;rw[<-h.1];split
  .simp [h.2]
  .simp [h.1,kJ k v w h.2]
 | [],_ :: _,h=>by simp at h
 |_ :: _,[],h=>by simp at h
theorem kK{α β:Type}(k:Int):∀{es:List (Int×α)} {fs:List (Int×β)},es.map Prod.fst=fs.map Prod.fst->(getK k es=none↔getK k fs=none)
 | [],[],_=>by simp[getK]
 |e :: es,f :: fs,h=>by
  simp only[yz,jV]at h;unfold getK;rw[<-h.1];split
  .simp
  .exact kK k h.2
 | [],_ :: _,h=>by simp at h
 |_ :: _,[],h=>by simp at h
structure GrpM (mu:Mu) (b:Nat) (g:List (Int×List Int)) (cs:List (Int×AV)):Prop where
 at0:mu[b]?=some (.mp (encK (fun n:Int=>aI n) id cs))
 keys:cs.map Prod.fst=g.map Prod.fst
 own:∀ k v,getK k cs=some v->∃ l,getK k g=some l/\OwnI mu v l
 inj:∀ k k' v v' x,getK k cs=some v->getK k' cs=some v'->qt v=some x->qt v'=some x->k=k'
 ne:∀ k v,getK k cs=some v->qt v≠some b
theorem GrpM.cur{mu:Mu}{b:Nat}{g:List (Int×List Int)}{cs:List (Int×AV)}(h:GrpM mu b g cs)(k:Int):OwnI mu ((getK k cs).getD (.lst true [])) ((getK k g).getD []):=by
 cases hk:getK k cs with
 |none=>rw[(kK k h.keys).1 hk];exact .inl ⟨rfl,rfl⟩
 |some v=>obtain⟨l,h1,h2⟩:=h.own k v hk;rw[h1];exact h2
theorem GrpM.step{mu mu':Mu}{b:Nat}{g:List (Int×List Int)}{cs:List (Int×AV)}(h:GrpM mu b g cs){k:Int}{av:AV}{l:List Int}(ho:OwnI mu' av l)(hs:∀ i,i<mu.length->qt ((getK k cs).getD (.lst true []))≠some i->mu'[i]?=mu[i]?)(hb:∀ x,qt av=some x->x=mu.length) :
  mu'[b]?=some (.mp (encK (fun n:Int=>aI n) id cs))/\GrpM (mu'.set b (.mp (encK (fun n:Int=>aI n) id (setK k av cs)))) b (setK k l g) (setK k av cs):=by
 have hbl:b<mu.length:=(qk.1 h.at0).1;have hbc:qt ((getK k cs).getD (.lst true []))≠some b:=by
  cases hk:getK k cs with
  |none=>simp[qt]
  |some v=>exact h.ne k v hk
 have hb0:=hs b hbl hbc;have hbl':b<mu'.length:=by
  rw[h.at0]at hb0;exact(qk.1 hb0).1
 have hav:qt av≠some b:=fun e=>by have:=hb b e;omega
 have keep:∀{v:AV} {l:List Int},OwnI mu' v l->qt v≠some b->OwnI (mu'.set b (.mp (encK (fun n:Int=>aI n) id (setK k av cs)))) v l:=fun o hn=>o.same fun x hx=>by
  rw[qK (fun e=>hn (by rw[e];exact hx))]
 have old:∀{k':Int} {v:AV} {l:List Int},k'≠k->getK k' cs=some v->OwnI mu v l->OwnI mu' v l:=fun hne hk o=>o.same fun x hx=>by
  have hxl:=o.v.lt hx;refine hs x hxl fun e=>?_
  cases hc:getK k cs with
  |none=>rw[hc]at e;simp[qt]at e
  |some w=>rw[hc]at e;exact hne (h.inj _ _ _ _ x hk hc hx e)
 refine⟨by rw[hb0];exact h.at0,by rw[za hbl'],kJ k _ _ h.keys,fun k' v hk=>?_,fun k1 k2 v1 v2 x hk1 hk2 h1 h2=>?_,fun k' v hk=>?_⟩
 .rw [Qd]at hk⊢
  by_cases e:k'=k
  .rw [if_pos e]at hk⊢;cases hk;exact⟨l,rfl,keep ho hav⟩
  .rw [if_neg e]at hk⊢
   obtain⟨l',h1,h2⟩:=h.own k' v hk;exact⟨l',h1,keep (old e hk h2) (h.ne k' v hk)⟩
 .rw [Qd]at hk1 hk2
  have lt:∀{k' v},getK k' cs=some v->qt v=some x->x<mu.length:=fun hk hx=>by
   obtain⟨l',_,o⟩:=h.own _ _ hk;exact o.v.lt hx
  by_cases e1:k1=k
  .by_cases e2:k2=k
   .rw [e1,e2]
   .rw [if_pos e1]at hk1;rw[if_neg e2]at hk2;cases hk1
    have:=hb x h1;have:=lt hk2 h2;omega
  .by_cases e2:k2=k
   .rw [if_neg e1]at hk1;rw[if_pos e2]at hk2;cases hk2
    have:=hb x h2;have:=lt hk1 h1;omega
   .rw [if_neg e1]at hk1;rw[if_neg e2]at hk2
    exact h.inj _ _ _ _ x hk1 hk2 h1 h2
 .rw [Qd]at hk
  by_cases e:k'=k
  .rw [if_pos e]at hk;cases hk;exact hav
  .rw [if_neg e]at hk;exact h.ne k' v hk
theorem GrpM.nil{mu:Mu}{b:Nat}(h:mu[b]?=some (.mp [])):GrpM mu b [] []:=⟨h,rfl,fun k v hk=>by simp[getK]at hk,fun k k' v v' x hk=>by simp[getK]at hk,fun k v hk=>by simp[getK]at hk⟩
theorem GrpM.rd{mu:Mu}{b:Nat}{g:List (Int×List Int)}{cs:List (Int×AV)}(h:GrpM mu b g cs)(hn:(g.map Prod.fst).Nodup):Rd mu (.mp b) (.im (encK (fun n:Int=>aI n) lI g)):=by
 have hlen:cs.length=g.length:=by have:=congrArg List.length h.keys;simpa using this
 have hnc:(cs.map Prod.fst).Nodup:=by rw[h.keys];exact hn
 refine .mp b _ _ h.at0 (by simp[encK,hlen]) (fun k x y hx hy=>?_) (fun k x y hx hy=>?_)
 .have e:=congrArg (fun l=>l[k]?) h.keys
  simp only[zj]at e hx hy;cases hc:cs[k]? with
  |none=>rw[hc]at hx;cases hx
  |some c =>
   cases hg:g[k]? with
   |none=>rw[hg]at hy;cases hy
   |some d =>
    rw[hc]at hx;rw[hg]at hy;rw[hc,hg]at e;cases hx;cases hy;simp only[q8,qp]at e;simp only[e];exact .hf _ (HF.sc _)
 .have e:=congrArg (fun l=>l[k]?) h.keys
  simp only[zj]at e hx hy;cases hc:cs[k]? with
  |none=>rw[hc]at hx;cases hx
  |some c =>
   cases hg:g[k]? with
   |none=>rw[hg]at hy;cases hy
   |some d =>
    rw[hc]at hx;rw[hg]at hy;rw[hc,hg]at e;cases hx;cases hy;simp only[q8,qp]at e;obtain⟨l,h1,h2⟩:=h.own c.1 c.2 ((UD hnc).2 (qS hc));rw[e]at h1;have:=(UD hn).2 (qS hg:(d.1,d.2)∈g);rw[h1]at this;cases this;exact h2.v.rd
theorem qc9(n m:Int)(x y:List Int):(x.flatMap fun s=>((getK (s % n) (grpK m y)).getD []).map fun t=>s / n*m+t)=joL n m x y:=by
 unfold joL;congr 1;funext s;have:=J5 m y y.length (qs _) (s % n);rw[zw]at this;rw[this,List.map_map];rfl
end EP
namespace EQ
open E1 EJ EM EN EO
theorem qF.zeros{P:Program}{mu:Mu}{t tn e bt n:Nat}{z:Int}{K:AV->Mu->Prop}(hs:qN P t=some (e,1,bt))(hn:P.underlying tn=some (.int .i64))(hz:qB P e=some (aI z))(hb:bt<=16384)(h0:0<n)(hl:n<=4294967296)
  (k:∀ c:List AV,K (.sl mu.length 1 0 n) (mu++[.arr c])):qF P mu #[t,tn] (.lst true []) (aI n) K:=
 .inr (.inr ⟨t,tn,e,1,bt,_,n,[],rfl,hs,hn,hz,rfl,rfl,by omega,hb,rfl,h0,rfl,fun r hr=>by simp at hr,by simpa using hl,by simpa using k _⟩)
theorem growE(mu:Mu)(n:Nat)(hn:n<=1000000):qX qc 144 [.lst true [],aI n] mu fun e m=>∃ av,e = .ret av/\OwnV m av []/\(∀ i,i<mu.length->m[i]?=mu[i]?)/\mu.length<=m.length/\∀ b,qt av=some b->mu.length<=b:=by
 refine qSW call144 func144 rfl {} ?_;have wz:ql.wrap 0=0:=qi (by omega) (by omega);have w0:ql.wrap (n:Int)=n:=qi (by omega) (by omega);have hnn:¬(n:Int)<0:=by omega
 by_cases hz:n=0
 .subst hz
  simp[go_sem,wz];exact⟨.inl ⟨rfl,rfl⟩,by simp[qt]⟩
 .have hp:0<n:=by omega
  simp[go_sem,wz,w0,hnn,hp];refine⟨⟨_,_,⟨rfl,rfl⟩,fun r hr=>by simp at hr⟩,?_⟩;refine qF.zeros (e:=3) (bt:=8) (z:=0) (by simp[go_sem]) (by simp[go_sem]) (by simp[go_sem]) (by omega) hp (by omega) ?_;intro c;simp[go_sem];refine⟨.inr ⟨mu.length,c,rfl,by simp,by simp,by simp⟩,fun i hi=>by rw[qr hi],by simp[qt]⟩
theorem qdA(mu:Mu)(a b:List Int)(ha:a.length<=100000)(hb:b.length<=100000):qX qc 80 [.lst true [[lI a],[lI b]]] mu fun e m=>∃ av,e = .ret av/\OwnI m av (a++b)/\(∀ i,i<mu.length->m[i]?=mu[i]?)/\mu.length<=m.length/\∀ x,qt av=some x->mu.length<=x:=by
 refine qSW call80 func80 rfl {} ?_;have v1:ql.wrap 1=1:=qi (by omega) (by omega);have v2:ql.wrap 2=2:=qi (by omega) (by omega);simp[go_sem];have n0:¬((a.length:Int)+b.length)<0:=by omega
 refine qn.up 2 (fun k st=>st.tm 0 = .lst true [[lI a],[lI b]]/\st.tm 3=aI ((if 0<k then (a.length:Int) else 0)+(if 1<k then (b.length:Int) else 0))/\st.tm 9 = .lst true [[lI a],[lI b]]/\st.tm 10=aI 2/\st.tm 11=aI k/\st.mu=mu) ?_ ?_
 .simp [go_sem]
 rintro k st hk ⟨e0,e3,e9,e10,e11,hm⟩;by_cases hlt:k<2
 .have:k=0\/k=1:=by omega
  rcases this with rfl|rfl
  .have w1:ql.wrap (a.length:Int)=a.length:=qi (by omega) (by omega)
   have n1:¬(a.length:Int)<0:=by omega
   simp[go_sem,e0,e3,e9,e10,e11,hm,w1,n1,v1]
  .have w1:ql.wrap ((a.length:Int)+b.length)=a.length+b.length:=qi (by omega) (by omega)
   simp[go_sem,e0,e3,e9,e10,e11,hm,w1,n0,v2]
 .have:k=2:=by omega
  subst this;have g:=growE mu (a.length+b.length) (by omega);simp[go_sem,e0,e3,e9,e10,e11,hm];refine qe.eff0 (by simpa using g) ?_ ?_
  .rintro r m ⟨av,h,ho,hs,hl,hb0⟩
   cases h;simp[go_sem,ho.one,e0];refine qn.up 2 (fun k st=>st.tm 25 = .lst true [[lI a],[lI b]]/\st.tm 26=aI 2/\st.tm 27=aI k/\(if k=0 then OwnV st.mu (st.tm 6) [] else OwnI st.mu (st.tm 6) (if k=1 then a else a++b))/\(∀ i,i<mu.length->st.mu[i]?=mu[i]?)/\mu.length<=st.mu.length/\∀ x,qt (st.tm 6)=some x->mu.length<=x) ?_ ?_
   .simp [go_sem,e0]
    exact⟨ho,hs,hl,hb0⟩
   rintro k st' hk ⟨f25,f26,f27,ho,hs,hl,hb0⟩;by_cases hlt:k<2
   .have:k=0\/k=1:=by omega
    rcases this with rfl|rfl
    .rw [if_pos rfl]at ho
     simp[go_sem,f25,f26,f27];refine qF.ownVs (e:=3) (bt:=8) (z:=0) (l:=[]) (ys:=a) (by simp[go_sem]) (by simp[go_sem]) (by simp[go_sem]) (by omega) ho (by simp[qI]) (by simp;omega) ?_;intro av' mu' ho' hs' hl' hb';simp at ho';simp[go_sem,f25,f26,f27,ho'.v.one,v1];refine⟨ho',fun i hi=>?_,by omega,fun x hx=>?_⟩
     .rw [hs' i (by omega) (fun e=>by have:=hb0 i e;omega)];exact hs i hi
     .have:=hb' x hx;omega
    .rw [if_neg (by omega),if_pos rfl]at ho
     simp[go_sem,f25,f26,f27];refine qF.ownVs (e:=3) (bt:=8) (z:=0) (l:=a) (ys:=b) (by simp[go_sem]) (by simp[go_sem]) (by simp[go_sem]) (by omega) ho.v (by simp[qI]) (by omega) ?_;intro av' mu' ho' hs' hl' hb';simp[go_sem,f25,f26,f27,ho'.v.one,v2];refine⟨ho',fun i hi=>?_,by omega,fun x hx=>?_⟩
     .rw [hs' i (by omega) (fun e=>by have:=hb0 i e;omega)];exact hs i hi
     .have:=hb' x hx;omega
   .have:k=2:=by omega
    subst this;rw[if_neg (by omega),if_neg (by omega)]at ho;simp[go_sem,f25,f26,f27];exact⟨ho,hs,hl,hb0⟩
  .rintro r m ⟨av,h,_⟩
   cases h
theorem qdB(mu:Mu):qX qc 142 [.lst true []] mu fun e m=>e = .ret (.tup [])/\m=mu:=by
 refine⟨call142,fun G w vs s ra=>?_⟩;obtain⟨v,rfl,rv⟩:=ra.one_inv;obtain⟨p,cap,rfl⟩:∃ p cap,v = .slice p 0 cap:=by cases rv<;>exact⟨_,_,rfl⟩
 refine(Tryz.slices_Sort_int_none p cap w).mono fun e w' ⟨he,hw⟩=>?_
 subst hw;exact⟨G,mu,.refl s,.inl ⟨_,_,⟨rfl,rfl⟩,he,.tup [] #[] rfl (by simp)⟩⟩
theorem sortA(mu:Mu)(av:AV)(l:List Int)(hl:l.length<=1000000)(ho:OwnI mu av l):qX qc 142 [av] mu fun e m=>e = .ret (.tup [])/\OwnI m av (srtI l)/\(∀ i,qt av≠some i->m[i]?=mu[i]?)/\m.length=mu.length:=by
 rcases ho with ⟨rfl,rfl⟩|⟨b,rfl,hc⟩
 .refine (qdB mu).monoR ?_
  rintro e m ⟨rfl,rfl⟩;exact⟨rfl,.inl ⟨rfl,by simp[srtI]⟩,fun _ _=>rfl,rfl⟩
 .refine (sortE hc (by omega)).monoR ?_
  rintro e m ⟨rfl,rfl⟩;have hb:b<mu.length:=(qk.1 hc).1;exact⟨rfl,.inr ⟨b,by rw[Yd],by rw[za hb]⟩,fun i hi=>by rw[qK (fun e=>hi (by rw[e];rfl))],by simp⟩
theorem qdC(mu:Mu)(av:AV)(l:List Int)(hl:l.length<=1000000)(ho:OwnI mu av l):qX qc 143 [av] mu fun e m=>∃ x,e = .ret x/\OwnV m x (cmpc eqI l)/\(∀ i,qt av≠some i->m[i]?=mu[i]?)/\m.length=mu.length/\∀ b,qt x=some b->qt av=some b:=by
 rcases ho with ⟨rfl,rfl⟩|⟨b,rfl,hc⟩
 .refine qSW call143 func143 rfl {} ?_
  simp[go_sem];exact .inl ⟨rfl,rfl⟩
 .refine (qcY mu b l hl hc).monoR ?_
  rintro e m ⟨cells,rfl,rfl,h1,h2⟩;have hb:b<mu.length:=(qk.1 hc).1;refine⟨_,rfl,.inr ⟨b,cells,rfl,by rw[za hb],?_,h2⟩,fun i hi=>by rw[qK (fun e=>hi (by rw[e];rfl))],by simp,fun x hx=>hx⟩;have:=congrArg List.length h2;simp at this;omega
theorem UZ(mu:Mu)(ar:Int)(av:AV)(l:List Int)(hl:l.length<=1000000)(ho:OwnI mu av l):qX qc 78 [aI ar,av] mu fun e m=>∃ x,e = .ret (.agg [aI ar,x])/\OwnV m x (ofL l)/\(∀ i,i<mu.length->qt av≠some i->m[i]?=mu[i]?)/\mu.length<=m.length/\∀ b,qt x=some b->qt av=some b:=by
 refine qSW call78 func78 rfl {} ?_;have ho1:OwnI (mu++[.arr [aI 0,.lst true []]]) av l:=ho.same fun b hb=>by rw[qr (ho.v.lt hb)]
 have hne:qt av≠some mu.length:=fun h=>by have:=ho.v.lt h;omega
 simp[go_sem];refine qe.eff0 (sortA _ av l hl ho1) ?_ ?_
 .rintro r m ⟨h,ho2,hs2,hl2⟩
  cases h;have hl3:m.length=mu.length+1:=by simpa using hl2
  simp[go_sem];refine qe.eff0 (qdC _ av _ (by rw[Yd];exact hl) ho2) ?_ ?_
  .rintro r m' ⟨x,h,ho4,hs4,hl4,hb4⟩
   cases h;rw[qcW]at ho4;have hc:m'[mu.length]?=some (.arr [aI 0,.lst true []]):=by rw[hs4 _ hne,hs2 _ hne];simp
   have hset:∀ c,(m'.set mu.length c)[mu.length]?=some c:=fun c=>za (by omega)
   have hx:qt r≠some mu.length:=fun h=>hne (hb4 _ h)
   simp[go_sem,hc,hset,ho4.one,ho4.cells];refine⟨?_,fun i hi hn=>?_,by omega,hb4⟩
   .exact ho4.same fun b hb=>by rw[qK (fun e=>hx (by rw[e];exact hb))]
   .rw [qK (by omega),hs4 i hn,hs2 i hn,qr hi]
  .rintro r m' ⟨x,h,_⟩
   cases h
 .rintro r m ⟨h,_⟩
  cases h
theorem OwnV.rdRel{mu:Mu}{ar:Int}{av:AV}{l:List Int}(h:OwnV mu av l):Rd mu (.agg [aI ar,av]) (eRel ⟨ar,l⟩):=by
 refine .agg _ _ rfl fun k u v hu hv=>?_
 match k with
 | 0=>simp at hu hv;subst hu;subst hv;exact .hf _ (HF.sc _)
 | 1=>simp at hu hv;subst hu;subst hv;exact h.rd
 |k+2=>simp at hu
theorem jO(a b:Rl)(ha:a.ts.length<=100000)(hb:b.ts.length<=100000):qj qc 37 [eRel a,eRel b] (eRel (unR a b)):=by
 refine qSQ call37 func37 rfl {} ?_;simp[go_sem];refine qg.seg [0,1,2,3,4,5,6,7,8,9] [(0,0,[]),(1,0,[]),(2,0,[]),(3,0,[]),(4,0,[]),(5,0,[]),(6,0,[]),(7,1,[1]),(8,1,[]),(9,1,[])] (by kernel_rfl) (by kernel_rfl) (by simp[go_sem]) ?_;simp[go_sem];refine qe.eff0 (qdA _ a.ts b.ts ha hb) ?_ ?_
 .rintro r m ⟨av,h,ho,hs,hl,hb0⟩
  cases h;have h0:=hs 0 (by simp);simp at h0;have hn0:qt r≠some 0:=fun h=>by have:=hb0 0 h;simp at this
  simp[go_sem,ho.v.one];refine qe.eff0 (UZ m a.ar r _ (by simp;omega) ho) ?_ ?_
  .rintro r m' ⟨x,h,ho2,hs2,hl2,hb2⟩
   cases h;have h1:=hs2 0 (qk.1 h0).1 hn0;rw[h0]at h1;have hset:∀ c,(m'.set 0 c)[0]?=some c:=fun c=>za (qk.1 h1).1
   have hx:qt x≠some 0:=fun h=>hn0 (hb2 _ h)
   simp[go_sem,h1,hset,ho2.one,ho2.cells];refine OwnV.rdRel ?_;exact ho2.same fun b hb=>by rw[qK (fun e=>hx (by rw[e];exact hb))]
  .rintro r m' ⟨x,h,_⟩
   cases h
 .rintro r m ⟨x,h,_⟩
  cases h
end EQ
namespace ER
open E1 EO EP EQ
theorem U0(l:List Int)(fv:AV)(p:Int->Bool)(hf:FnOk qc fv (fun x:Int=>aI x) (·∈l) (fun x=>aB (p x)))(hl:l.length<=1000000):qj qc 147 [lI l,fv] (lI (l.filter p)):=by
 refine qSQ call147 func147 rfl {} ?_;simp[go_sem];refine qn.keep (fun m st=>∃ k,m=l.length-k/\k<=l.length/\st.tm 1=fv/\st.tm 8=lI l/\st.tm 9=aI l.length/\st.tm 10=aI (k:Nat)/\OwnI st.mu (st.tm 5) ((l.take k).filter p)) l.length ?_ ?_
 .exact ⟨0,by omega,by omega,by simp[go_sem],by simp[go_sem],by simp[go_sem],by simp[go_sem],.inl ⟨by simp[go_sem],rfl⟩⟩
 rintro m st ⟨k,rfl,hk,e1,e8,e9,e10,ho⟩;by_cases hlt:k<l.length
 .have w1:ql.wrap ((k:Int)+1)=(k:Int)+1:=qi (by omega) (by omega)
  have hlen:((l.take k).filter p).length<=k:=zz (List.length_filter_le _ _) (by simp;omega);simp[go_sem,e1,e8,e9,e10,hlt];refine FnOk.call (enc:=fun x:Int=>aI x) hf (qw hlt) ?_;cases hp:p l[k] with
  |true =>
   have hs:(l.take (k+1)).filter p=(l.take k).filter p++[l[k]]:=by rw[ya hlt,List.filter_append];simp[hp]
   simp[go_sem,e1,e8,e9,e10,hlt];refine qF.ownV1 (e:=3) (bt:=8) (z:=0) (l:=(l.take k).filter p) (by simp[go_sem]) (by simp[go_sem]) (by simp[go_sem]) (by omega) ho.v (by omega) ?_;intro av mu' ho' _ _ _;simp[go_sem,e1,e8,e9,e10,hlt,w1,ho'.v.one];refine Keep.loop (l.length-(k+1)) (by omega) ⟨k+1,rfl,by omega,by simp[go_sem,e1],by simp[go_sem,e8],by simp[go_sem,e9],by simp[go_sem],?_⟩;rw[hs];simpa[go_sem] using ho'
  |false =>
   have hs:(l.take (k+1)).filter p=(l.take k).filter p:=by rw[ya hlt,List.filter_append];simp[hp]
   simp[go_sem,e1,e8,e9,e10,hlt,w1];refine Keep.loop (l.length-(k+1)) (by omega) ⟨k+1,rfl,by omega,by simp[go_sem,e1],by simp[go_sem,e8],by simp[go_sem,e9],by simp[go_sem],?_⟩;rw[hs];simpa[go_sem] using ho
 .have hge:k=l.length:=by omega
  subst hge;rw[zw]at ho;simp[go_sem,e1,e8,e9,e10];exact ho.v.rd
theorem sameU(x:Int):qj qc 146 [aI x] (aI x):=by
 refine qSQ call146 func146 rfl {} ?_;simp[go_sem];exact .hf _ (HF.sc _)
abbrev imC(l:List (Int×Int)):AV := .im (encK (fun n:Int=>aI n) (fun n:Int=>aI n) l)
theorem Qg(l:List (Int×Int)):HF (imC l):=HF.im fun p hp=>by
 obtain⟨q,_,rfl⟩:=qq.1 hp;exact⟨HF.sc _,HF.sc _⟩
theorem setU(r:Rl)(fv:AV)(f:Int->Int)(hf:FnOk qc fv (fun x:Int=>aI x) (·∈r.ts) (fun x=>aI (f x)))(hl:r.ts.length<=1000000):qj qc 145 [eRel r,fv] (imC (cntK f r.ts)):=by
 refine qSQ call145 func145 rfl {} ?_;simp[go_sem];obtain⟨B,hB⟩:∃ B,B=AV.mp 0:=⟨_,rfl⟩;refine qn.up r.ts.length (fun k st=>st.tm 1=fv/\st.tm 5=B/\st.tm 10=lI r.ts/\st.tm 11=aI r.ts.length/\st.tm 12=aI k/\st.mu[0]?=some (.mp (encK (fun n:Int=>aI n) (fun n:Int=>aI n) (cntK f (r.ts.take k))))) ?_ ?_
 .simp [go_sem,cntK,encK,hB]
 rintro k st hk ⟨e1,e5,e10,e11,e12,hm⟩;by_cases hlt:k<r.ts.length
 .have w1:ql.wrap ((k:Int)+1)=(k:Int)+1:=qi (by omega) (by omega)
  obtain⟨c1,c2,_⟩:=J4 f r.ts k (by omega) (f r.ts[k]);have hs:=kF f (r.ts.take k) r.ts[k];rw[<-ya hlt]at hs;have hl1:=keyI.look (et:=3) (t:=175) (by simp[go_sem]) (mu:=st.mu) (m := .mp 0) (venc:=fun n:Int=>aI n) (es:=cntK f (r.ts.take k)) (by simp only[jw,hm]) (k:=f r.ts[k]) trivial (fun _ _=>trivial) (z:=aI 0) (by simp[go_sem]) false;have hlook:yc qc st.mu 175 B (aI (f r.ts[k])) false=some (aI ((getK (f r.ts[k]) (cntK f (r.ts.take k))).getD 0)):=by
   rw[hB];refine Eq.trans hl1 ?_;cases getK (f r.ts[k]) (cntK f (r.ts.take k))<;>rfl
  have hupd:vu qc st.mu 175 (.mp 0) (aI (f r.ts[k])) (aI ((getK (f r.ts[k]) (cntK f (r.ts.take k))).getD 0+1))=_:=keyI.update (et:=3) (t:=175) (by simp[go_sem]) (mu:=st.mu) (b:=0) (venc:=fun n:Int=>aI n) (es:=cntK f (r.ts.take k)) hm (k:=f r.ts[k]) (v:=(getK (f r.ts[k]) (cntK f (r.ts.take k))).getD 0+1) trivial (fun _ _=>trivial);rw[<-hs,<-hB]at hupd;have hlen:0<st.mu.length:=(qk.1 hm).1;generalize (getK (f r.ts[k]) (cntK f (r.ts.take k))).getD 0=c at *
  have w2:ql.wrap (c+1)=c+1:=qi (by omega) (by omega);simp[go_sem,e1,e5,e10,e11,e12,hlt];refine FnOk.call (enc:=fun x:Int=>aI x) hf (qw hlt) ?_;simp[go_sem,e1,e5,e10,e11,e12,hlt,hlook,w1,w2];subst hB;refine OptK.intro _ hupd ?_;simp[go_sem,e1,e5,e10,e11,e12,hlt,w1,hlen]
 .have hge:k=r.ts.length:=by omega
  subst hge;rw[zw]at hm;simp[go_sem,e1,e5,e10,e11,e12];rw[hB];exact .mp 0 _ _ hm rfl (fun k x y hx hy=>by rw[hx]at hy;cases hy;obtain⟨q,_,e⟩:=qq.1 (qS hx);rw[<-e];exact .hf _ (HF.sc _)) (fun k x y hx hy=>by rw[hx]at hy;cases hy;obtain⟨q,_,e⟩:=qq.1 (qS hx);rw[<-e];exact .hf _ (HF.sc _))
theorem FnOk.same(ok:Int->Prop):FnOk qc (.fn (.func 146) [] []) (fun x:Int=>aI x) ok (fun x=>aI x):=
 ⟨HF.fn (by simp) (by simp),_,[],[],rfl,fun x _=>⟨_,.cons (.hf (HF.sc _)) .nil,sameU x⟩⟩
theorem U1(mu:Mu)(f:Int->Int)(ts:List Int)(k:Int):yc qc mu 175 (imC (cntK f ts)) (aI k) false=some (aI ((getK k (cntK f ts)).getD 0)):=by
 have:=keyI.look (et:=3) (t:=175) (by simp[go_sem]) (mu:=mu) (m:=imC (cntK f ts)) (venc:=fun n:Int=>aI n) (es:=cntK f ts) rfl (k:=k) trivial (fun _ _=>trivial) (z:=aI 0) (by simp[go_sem]) false;simp only[yc];refine Eq.trans this ?_;cases getK k (cntK f ts)<;>rfl
theorem qdD(f:Int->Int)(ts:List Int)(x:Int):qj qc 148 [aI x,.ip [imC (cntK f ts)]] (aB (decide (0<(getK x (cntK f ts)).getD 0))):=by
 refine qSQ call148 func148 rfl {} ?_;have hl:=fun mu=>U1 mu f ts x
 generalize imC (cntK f ts)=B at *
 simp[go_sem,hl];exact .hf _ (HF.sc _)
theorem qdE(f:Int->Int)(ts:List Int)(x:Int):qj qc 149 [aI x,.ip [imC (cntK f ts)]] (aB (decide ((getK x (cntK f ts)).getD 0=0))):=by
 refine qSQ call149 func149 rfl {} ?_;have hl:=fun mu=>U1 mu f ts x
 generalize imC (cntK f ts)=B at *
 simp[go_sem,hl];exact .hf _ (HF.sc _)
theorem yK{x:AV}(h:HF x):HF (.ip [x]):=HF.ip fun c hc=>by simp at hc;subst hc;exact h
theorem kL(ts:List Int)(x:Int):(0<(getK x (cntK (fun x=>x) ts)).getD 0↔x∈ts)/\((getK x (cntK (fun x=>x) ts)).getD 0=0↔¬x∈ts):=by
 obtain⟨h1,h2⟩:=kG (fun x=>x) ts x;have h3:(∃ t,t∈ts/\t=x)↔x∈ts:=⟨fun⟨t,ht,e⟩=>e ▸ ht,fun h=>⟨x,h,rfl⟩⟩;rw[h3]at h2;exact⟨h2,by rw[<-h2];omega⟩
theorem Rd.ip1{mu:Mu}{b:Nat}{x y:AV}(hc:mu[b]?=some (.arr [x]))(h:Rd mu x y):Rd mu (.ptr b 0) (.ip [y]):=by
 refine .ptr b 0 [x] [y] hc (by simp) fun k u v hu hv=>?_
 match k with
 | 0=>simp at hu hv;subst hu;subst hv;exact h
 |k+1=>simp at hv
theorem J6(a b:Rl)(ha:a.ts.length<=1000000)(hb:b.ts.length<=1000000):qj qc 81 [eRel a,eRel b] (eRel (inR a b)):=by
 refine qSQ call81 func81 rfl {} ?_;have hs:=setU b _ _ (FnOk.same (·∈b.ts)) hb;have hk:=U0 a.ts (.fn (.func 148) [] [.ip [imC (cntK (fun x=>x) b.ts)]]) (fun t=>decide (t∈b.ts)) ⟨HF.fn (by simp) (by simp;exact yK (Qg _)),_,[],_,rfl,fun x _=>⟨_,.cons (.hf (HF.sc _)) (.cons (.hf (yK (Qg _))) .nil),by have:=qdD (fun x=>x) b.ts x;simp only[(kL b.ts x).1]at this;exact this⟩⟩ ha;have hw:WKs [eRel b,.fn (.func 146) [] []] [eRel b,.fn (.func 146) [] []] := .cons (.hf (qR b)) (.cons (.hf (HF.fn (by simp) (by simp))) .nil);have hfi:=Qg (cntK (fun x=>x) b.ts);have hBc:(imC (cntK (fun x=>x) b.ts)).cells=[imC (cntK (fun x=>x) b.ts)]:=rfl;have hBo:(imC (cntK (fun x=>x) b.ts)).one=true:=rfl;generalize imC (cntK (fun x=>x) b.ts)=B at *
 have hw2:WKs [lI a.ts,.fn (.func 148) [] [.ip [B]]] [lI a.ts,.fn (.func 148) [] [.ip [B]]] := .cons (.hf (yh _)) (.cons (.hf (HF.fn (by simp) (by simp;exact yK hfi))) .nil);simp[go_sem];refine qe.pure hs hw ?_;simp[go_sem,hBc,hBo];refine qg.fz (FzQ.one (d:=5) (b:=1) (x := .ip [B]) (Rd.ip1 rfl (.hf _ hfi)) ?_);simp[go_sem,cutM];refine qg.intro (by kernel_rfl) ?_;simp[go_sem];refine qe.pure hk hw2 ?_;simp[go_sem];exact .hf _ (qR (inR a b))
theorem kM(a b:Rl)(ha:a.ts.length<=1000000)(hb:b.ts.length<=1000000):qj qc 82 [eRel a,eRel b] (eRel (diR a b)):=by
 refine qSQ call82 func82 rfl {} ?_;have hs:=setU b _ _ (FnOk.same (·∈b.ts)) hb;have hk:=U0 a.ts (.fn (.func 149) [] [.ip [imC (cntK (fun x=>x) b.ts)]]) (fun t=>decide (¬t∈b.ts)) ⟨HF.fn (by simp) (by simp;exact yK (Qg _)),_,[],_,rfl,fun x _=>⟨_,.cons (.hf (HF.sc _)) (.cons (.hf (yK (Qg _))) .nil),by have:=qdE (fun x=>x) b.ts x;simp only[(kL b.ts x).2]at this;exact this⟩⟩ ha;have hw:WKs [eRel b,.fn (.func 146) [] []] [eRel b,.fn (.func 146) [] []] := .cons (.hf (qR b)) (.cons (.hf (HF.fn (by simp) (by simp))) .nil);have hfi:=Qg (cntK (fun x=>x) b.ts);have hBc:(imC (cntK (fun x=>x) b.ts)).cells=[imC (cntK (fun x=>x) b.ts)]:=rfl;have hBo:(imC (cntK (fun x=>x) b.ts)).one=true:=rfl;generalize imC (cntK (fun x=>x) b.ts)=B at *
 have hw2:WKs [lI a.ts,.fn (.func 149) [] [.ip [B]]] [lI a.ts,.fn (.func 149) [] [.ip [B]]] := .cons (.hf (yh _)) (.cons (.hf (HF.fn (by simp) (by simp;exact yK hfi))) .nil);simp[go_sem];refine qe.pure hs hw ?_;simp[go_sem,hBc,hBo];refine qg.fz (FzQ.one (d:=5) (b:=1) (x := .ip [B]) (Rd.ip1 rfl (.hf _ hfi)) ?_);simp[go_sem,cutM];refine qg.intro (by kernel_rfl) ?_;simp[go_sem];refine qe.pure hk hw2 ?_;simp[go_sem];have e:diR a b=⟨a.ar,a.ts.filter fun t=>!decide (t∈b.ts)⟩:=by simp[diR]
 have h:=qR (diR a b);rw[e]at h⊢;exact .hf _ h
theorem inU(a b:Rl)(ha:a.ts.length<=1000000)(hb:b.ts.length<=1000000):qj qc 84 [eRel a,eRel b] (aB (decide ((diR a b).ts=[]))):=by
 refine qSQ call84 func84 rfl {} ?_;simp[go_sem];refine qe.pure (kM a b ha hb) (.cons (.hf (qR a)) (.cons (.hf (qR b)) .nil)) ?_;simp[go_sem];exact .hf _ (HF.sc _)
end ER
namespace E2
open E1
theorem Zm{n k:Int}(h0:0<=k)(h3:k<=3):powI n k=n ^ k.toNat:=by
 unfold powI powN;congr 1;omega
theorem uq{n i j:Int}(hi:0<=i)(hj:0<=j)(h:i+j<=3):powI n (i+j)=powI n i*powI n j:=by
 rw[Zm (by omega) h,Zm hi (by omega),Zm hj (by omega),<-Int.pow_add];congr 1;omega
theorem vB(n:Int):powI n 1=n:=by rw[Zm (by omega) (by omega)];exact Int.pow_succ n 0 ▸ by simp
theorem qdF{n:Int}(h:0<=n)(k:Int):0<=powI n k:=Int.pow_nonneg h
theorem Yj{u v a m:Int}(h0:0<=u)(h1:u<a)(h2:0<=v)(h3:v<m):0<=u*m+v/\u*m+v<a*m:=by
 have a1:0<=u*m:=Int.mul_nonneg h0 (by omega);have a2:(u+1)*m<=a*m:=Int.mul_le_mul_of_nonneg_right (by omega) (by omega);rw[Int.add_mul,Int.one_mul]at a2;omega
theorem GR.prod{n:Int}(h0:0<=n){a b:Rl}(ha:GR n a)(hb:GR n b)(h:a.ar+b.ar<=3):GR n (prR n a b):=by
 have a1:=ha.ar1;have b1:=hb.ar1;refine⟨by show 1<=a.ar+b.ar;omega,h,fun t ht=>?_,?_⟩
 .obtain ⟨s,hs,ht⟩:=ZN.1 ht
  obtain⟨u,hu,rfl⟩:=qq.1 ht;show 0<=s*powI n b.ar+u/\s*powI n b.ar+u<powI n (a.ar+b.ar);rw[uq (by omega) (by omega) h];exact Yj (ha.val s hs).1 (ha.val s hs).2 (hb.val u hu).1 (hb.val u hu).2
 .unfold z8
  show (a.ts.flatMap fun s=>b.ts.map fun t=>s*powI n b.ar+t).Pairwise (·<·);rw[List.pairwise_flatMap];refine⟨fun s hs=>?_,?_⟩
  .rw [List.pairwise_map]
   exact List.Pairwise.imp (fun h=>by omega) hb.srt
  .refine List.Pairwise.imp_of_mem (fun {s s'} hs hs' h x hx y hy=>?_) ha.srt
   obtain⟨u,hu,rfl⟩:=qq.1 hx;obtain⟨v,hv,rfl⟩:=qq.1 hy;have e1:=hb.val u hu;have e2:=hb.val v hv;have e3:(s+1)*powI n b.ar<=s' * powI n b.ar:=Int.mul_le_mul_of_nonneg_right (by omega) (qdF h0 _);rw[Int.add_mul,Int.one_mul]at e3;omega
theorem GR.ofL{n:Int}{ar:Int}{l:List Int}(h1:1<=ar)(h3:ar<=3)(h:∀ t,t∈l->0<=t/\t<powI n ar):GR n ⟨ar,ofL l⟩:=by
 obtain⟨s1,s2⟩:=JS l;exact⟨h1,h3,fun t ht=>h t ((s2 t).1 ht),s1⟩
theorem GR.join{n:Int}(h0:0<=n){a b:Rl}(ha:GR n a)(hb:GR n b)(h1:1<=a.ar+b.ar-2)(h3:a.ar+b.ar-2<=3):GR n (joR n a b):=by
 have a1:=ha.ar1;have b1:=hb.ar1;have a3:=ha.ar3;have b3:=hb.ar3;refine GR.ofL h1 h3 fun t ht=>?_
 obtain⟨s,hs,ht⟩:=ZN.1 ht;obtain⟨u,hu,rfl⟩:=qq.1 ht;have hu:=(vd.1 hu).1;obtain⟨s0,s1⟩:=ha.val s hs;obtain⟨u0,u1⟩:=hb.val u hu;have ea:powI n a.ar=powI n (a.ar-1)*n:=by
  have:=uq (n:=n) (i:=a.ar-1) (j:=1) (by omega) (by omega) (by omega);rw[vB]at this;rw[<-this];congr 1;omega
 have eb:powI n b.ar=powI n (b.ar-1)*n:=by
  have:=uq (n:=n) (i:=b.ar-1) (j:=1) (by omega) (by omega) (by omega);rw[vB]at this;rw[<-this];congr 1;omega
 have hn:0<n:=by
  rcases Int.lt_or_eq_of_le h0 with h|h
  .exact h
  .exfalso;rw[<-h]at ea;rw[Int.mul_zero]at ea;rw[<-h,ea]at s1;omega
 have hm:0<powI n (b.ar-1):=Int.pow_pos hn;have hd:s / n<powI n (a.ar-1):=Int.ediv_lt_of_lt_mul hn (by rw[<-ea];exact s1);rw[show a.ar+b.ar-2=(a.ar-1)+(b.ar-1) by omega,uq (by omega) (by omega) (by omega)];exact Yj (Int.ediv_nonneg s0 (by omega)) hd (Int.emod_nonneg _ (by omega)) (Int.emod_lt_of_pos _ hm)
theorem GR.trans{n:Int}(h0:0<=n){a:Rl}(ha:GR n a)(h:a.ar=2):GR n (trR n a):=by
 have e2:powI n 2=n*n:=by
  have:=uq (n:=n) (i:=1) (j:=1) (by omega) (by omega) (by omega);rw[vB]at this;exact this
 refine GR.ofL (by omega) (by omega) fun t ht=>?_
 obtain⟨s,hs,rfl⟩:=qq.1 ht;obtain⟨s0,s1⟩:=ha.val s hs;rw[h,e2]at s1;have hn:0<n:=by
  rcases Int.lt_or_eq_of_le h0 with h|h
  .exact h
  .exfalso;rw[<-h,Int.mul_zero]at s1;omega
 rw[e2];exact Yj (Int.emod_nonneg _ (by omega)) (Int.emod_lt_of_pos _ hn) (Int.ediv_nonneg s0 (by omega)) (Int.ediv_lt_of_lt_mul hn s1)
theorem GR.clos{n:Int}(h0:0<=n):∀(f:Nat) {c:Rl},GR n c->c.ar=2->GR n (clR n f c)/\(clR n f c).ar=2
 | 0,c,g,h=>⟨g,h⟩
 |f+1,c,g,h=>by
  rw[clR];split
  .exact ⟨g,h⟩
  .have gj:=GR.join h0 g g (by omega) (by omega)
   have gu:=GR.union g gj (by show c.ar=c.ar+c.ar-2;omega);exact GR.clos h0 f gu h
theorem GR.over{n:Int}{a b:Rl}(ha:GR n a)(hb:GR n b)(e:a.ar=b.ar):GR n (ovR n a b):=GR.union hb (ha.filter _) (by show b.ar=a.ar;omega)
theorem GR.iden{n:Int}(h0:0<=n):GR n (idR n):=by
 have e2:powI n 2=n*n:=by
  have:=uq (n:=n) (i:=1) (j:=1) (by omega) (by omega) (by omega);rw[vB]at this;exact this
 refine⟨by show (1:Int)<=2;omega,by show (2:Int)<=3;omega,fun t ht=>?_,?_⟩
 .obtain ⟨k,hk,rfl⟩:=qq.1 ht
  rw[zS]at hk;show _/\_<powI n 2;rw[e2];exact Yj (by omega) (by omega) (by omega) (by omega)
 .show ((qu n.toNat).map fun x:Nat=>(x:Int)*n+x).Pairwise (·<·)
  rw[List.pairwise_map];refine List.Pairwise.imp (fun {x y} h=>?_) List.pairwise_lt_range;have:=Int.mul_le_mul_of_nonneg_right (a:=(x:Int)) (b:=y) (c:=n) (by omega) h0;omega
theorem GR.nil{n ar:Int}(h1:1<=ar)(h3:ar<=3):GR n ⟨ar,[]⟩:=⟨h1,h3,fun t ht=>absurd ht zk,qcQ⟩
theorem GR.one{n a:Int}(h0:0<=a)(h1:a<n):GR n ⟨1,[a]⟩:=
 ⟨by show (1:Int)<=1;omega,by show (1:Int)<=3;omega,fun t ht=>by rw[qY]at ht;subst ht;show _/\_<powI n 1;rw[vB];exact⟨h0,h1⟩,List.pairwise_singleton _ _⟩
theorem GR.run{n a:Int}(m:Nat)(h0:0<=a)(h1:a+m<=n):GR n ⟨1,(qu m).map fun k:Nat=>a+k⟩:=by
 refine⟨by show (1:Int)<=1;omega,by show (1:Int)<=3;omega,fun t ht=>?_,?_⟩
 .obtain ⟨k,hk,rfl⟩:=qq.1 ht
  rw[zS]at hk;show _/\_<powI n 1;rw[vB];omega
 .show ((qu m).map fun k:Nat=>a+k).Pairwise (·<·)
  rw[List.pairwise_map];exact List.Pairwise.imp (fun {x y} h=>by omega) List.pairwise_lt_range
theorem GR.steps{n a:Int}(hn:0<=n)(m:Nat)(h0:0<=a)(h1:a+m+1<=n):GR n ⟨2,(qu m).map fun k:Nat=>(a+k)*n+(a+k+1)⟩:=by
 have e2:powI n 2=n*n:=by
  have:=uq (n:=n) (i:=1) (j:=1) (by omega) (by omega) (by omega);rw[vB]at this;exact this
 refine⟨by show (1:Int)<=2;omega,by show (2:Int)<=3;omega,fun t ht=>?_,?_⟩
 .obtain ⟨k,hk,rfl⟩:=qq.1 ht
  rw[zS]at hk;show _/\_<powI n 2;rw[e2];exact Yj (by omega) (by omega) (by omega) (by omega)
 .show ((qu m).map fun k:Nat=>(a+k)*n+(a+k+1)).Pairwise (·<·)
  rw[List.pairwise_map];refine List.Pairwise.imp (fun {x y} h=>?_) List.pairwise_lt_range;have:=Int.mul_le_mul_of_nonneg_right (a:=a+(x:Int)) (b:=a+y) (c:=n) (by omega) hn;omega
end E2
namespace ET
open E1 E2 E3 EL EO EP EQ ER
theorem U2(n:Int)(h0:0<=n)(h1:n<=20)(k:Int)(hk:0<=k)(h3:k<=3):qj qc 77 [aI n,aI k] (aI (powI n k)):=by
 have:=qcS n h0 h1 k.toNat (by omega);rw[show ((k.toNat:Nat):Int)=k by omega,<-Zm hk h3]at this;exact this
def RelM(mu:Mu)(ar:Int)(l:List Int):Prop:=∃ av,mu[0]?=some (.arr [aI 0,.lst true []])/\mu[1]?=some (.arr [aI ar,av])/\OwnI mu av l/\qt av≠some 0/\qt av≠some 1
theorem RelM.step{mu mu':Mu}{ar:Int}{av av':AV}{l:List Int}(h0:mu[0]?=some (.arr [aI 0,.lst true []]))(h1:mu[1]?=some (.arr [aI ar,av]))(n0:qt av≠some 0)(n1:qt av≠some 1)(ho:OwnI mu' av' l)
  (hs:∀ i,i<mu.length->qt av≠some i->mu'[i]?=mu[i]?) (hl:mu.length<=mu'.length) (hb:∀ b,qt av'=some b->b=mu.length):mu'[1]?=some (.arr [aI ar,av])/\RelM (mu'.set 1 (.arr [aI ar,av'])) ar l:=by
 have l1:1<mu.length:=(qk.1 h1).1;have m0:qt av'≠some 0:=fun e=>by have:=hb 0 e;omega
 have m1:qt av'≠some 1:=fun e=>by have:=hb 1 e;omega
 refine⟨by rw[hs 1 l1 n1];exact h1,av',by rw[qK (by omega),hs 0 (by omega) n0];exact h0,by rw[za (by omega)],ho.same fun b hb'=>?_,m0,m1⟩;rw[qK (fun e=>m1 (by rw[e];exact hb'))]
theorem qdG(m:Int)(x y:List Int)(s:Int):prL m (x++[s]) y=prL m x y++y.map fun t=>s*m+t:=by simp[prL]
theorem U3{a m x y:Int}(h0:0<=a)(h1:a<=x)(h2:0<=m)(h3:m<=y)(hx:0<=x):0<=a*m/\a*m<=x*y:=⟨Int.mul_nonneg h0 h2,jt h1 h3 h2 hx⟩
theorem wF{mu:Mu}{r:Rl}{e:Int}{x:AV}(h:Rd mu x (eRel r)):Rd mu (.tup [x,aI e]) (.tup [eRel r,aI e]):=by
 refine .tup _ _ rfl fun k u v hu hv=>?_
 match k with
 | 0=>simp at hu hv;subst hu;subst hv;exact h
 | 1=>simp at hu hv;subst hu;subst hv;exact .hf _ (HF.sc _)
 |k+2=>simp at hu
theorem Qh{mu:Mu}{ar:Int}:Rd mu (.agg [aI ar,.lst true []]) (eRel ⟨ar,[]⟩):=OwnV.rdRel (.inl ⟨rfl,rfl⟩)
theorem qdH(m:Int)(x y:List Int):(prL m x y).length=x.length*y.length:=by
 induction x with
 |nil=>simp[prL]
 |cons s x ih=>simp only[prL,ZM,zr,yO,zO]at ih⊢;rw[ih,Nat.add_mul];omega
theorem UH(n:Int)(h0:0<=n)(h12:n<=12)(a b:Rl)(ha:GR n a)(hb:GR n b):qj qc 33 [aI n,eRel a,eRel b] (match wD n a b with | .ok r => .tup [eRel r,aI 0] | .error e => .tup [eRel ⟨0,[]⟩,aI e]):=by
 refine qSQ call33 func33 rfl {} ?_;have a1:=ha.ar1;have a3:=ha.ar3;have b1:=hb.ar1;have b3:=hb.ar3;have la:=ha.len h0 (by omega);have lb:=hb.len h0 (by omega);have w0:ql.wrap (a.ar+b.ar)=a.ar+b.ar:=qi (by omega) (by omega);unfold wD;by_cases hc:a.ar+b.ar<=3
 .have hn:¬(3:Int)<a.ar+b.ar:=by omega
  obtain⟨p0,p1⟩:=uW (k:=b.ar) h0 (by omega:n<=20);rw[if_pos hc];simp[go_sem,w0,hn];refine qe.pure (U2 n h0 (by omega) b.ar (by omega) b3) (.cons (.hf (HF.sc _)) (.cons (.hf (HF.sc _)) .nil)) ?_;simp[go_sem];generalize hM:powI n b.ar=M at *
  have hlen:∀ i j,i<a.ts.length->j<=b.ts.length->(prL M (a.ts.take i) b.ts++(b.ts.take j).map fun t=>a.ts.getD i 0*M+t).length<=64000000:=fun i j hi hj=>by
   rw[zr,qdH,yO,vo,vo];have:(min i a.ts.length)*b.ts.length<=7999*8000:=Nat.mul_le_mul (by omega) lb;omega
  refine qn.upK a.ts.length (fun i st=>st.tm 5 = .ip (cRel b)/\st.tm 6 = .ptr 0 0/\st.tm 8 = .ptr 1 0/\st.tm 9=aI M/\st.tm 32=lI a.ts/\st.tm 33=aI a.ts.length/\st.tm 34=aI i/\RelM st.mu (a.ar+b.ar) (prL M (a.ts.take i) b.ts)) ?_ ?_
  .refine ⟨by simp[go_sem],by simp[go_sem],by simp[go_sem],by simp[go_sem],by simp[go_sem],by simp[go_sem],by simp[go_sem],.lst true [],by simp[go_sem],by simp[go_sem],.inl ⟨rfl,by simp[prL]⟩,by simp[qt],by simp[qt]⟩
  rintro i st hi ⟨e5,e6,e8,e9,e32,e33,e34,hr⟩;by_cases hlt:i<a.ts.length
  .have w1:ql.wrap ((i:Int)+1)=(i:Int)+1:=qi (by omega) (by omega)
   obtain⟨v0,v1⟩:=ha.val _ (qw hlt);obtain⟨q0,q1⟩:=uW (k:=a.ar) h0 (by omega:n<=20);obtain⟨m0,m1⟩:=U3 (x:=8000) (y:=8000) v0 (by omega) p0 p1 (by omega);have hgd:a.ts.getD i 0=a.ts[i]:=by rw[List.getD_eq_getElem?_getD,qv hlt];rfl
   have hlen:=hlen i;rw[hgd]at hlen;simp[go_sem,e5,e6,e8,e9,e32,e33,e34,hlt];refine qn.upK b.ts.length (fun j st=>st.tm 5 = .ip (cRel b)/\st.tm 6 = .ptr 0 0/\st.tm 8 = .ptr 1 0/\st.tm 9=aI M/\st.tm 11=aI a.ts[i]/\st.tm 32=lI a.ts/\st.tm 33=aI a.ts.length/\st.tm 34=aI i/\st.tm 39=lI b.ts/\st.tm 40=aI b.ts.length/\st.tm 41=aI j/\RelM st.mu (a.ar+b.ar) (prL M (a.ts.take i) b.ts++(b.ts.take j).map fun t=>a.ts[i] * M+t)) ?_ ?_
   .refine ⟨by simp[go_sem,e5],by simp[go_sem,e6],by simp[go_sem,e8],by simp[go_sem,e9],by simp[go_sem],by simp[go_sem,e32],by simp[go_sem,e33],by simp[go_sem,e34],by simp[go_sem],by simp[go_sem],by simp[go_sem],by simpa[go_sem] using hr⟩
   rintro j st hj ⟨f5,f6,f8,f9,f11,f32,f33,f34,f39,f40,f41,av,g0,g1,ho,n0,n1⟩;by_cases hlt2:j<b.ts.length
   .have w2:ql.wrap ((j:Int)+1)=(j:Int)+1:=qi (by omega) (by omega)
    obtain⟨u0,u1⟩:=hb.val _ (qw hlt2);rw[hM]at u1;have w3:ql.wrap (a.ts[i] * M)=a.ts[i] * M:=qi (by omega) (by omega);have w4:ql.wrap (a.ts[i] * M+b.ts[j])=a.ts[i] * M+b.ts[j]:=qi (by omega) (by omega);simp[go_sem,f5,f6,f8,f9,f11,f32,f33,f34,f39,f40,f41,hlt2,g1,w3,w4];refine qF.ownV1 (e:=3) (bt:=8) (z:=0) (by simp[go_sem]) (by simp[go_sem]) (by simp[go_sem]) (by omega) ho.v (by have:=hlen j hlt (by omega);omega) ?_;intro av' mu' ho' hs' hl' hb';obtain⟨k1,k2⟩:=RelM.step g0 g1 n0 n1 ho' hs' hl' hb';simp[go_sem,f5,f6,f8,f9,f11,f32,f33,f34,f39,f40,f41,k1,ho'.v.one,ho'.v.cells,w2];refine⟨hlt2,Keep.mk' ⟨by simp[go_sem,f5],by simp[go_sem,f6],by simp[go_sem,f8],by simp[go_sem,f9],by simp[go_sem,f11],by simp[go_sem,f32],by simp[go_sem,f33],by simp[go_sem,f34],by simp[go_sem,f39],by simp[go_sem,f40],by simp[go_sem],?_⟩⟩;rw[ya hlt2,zt,<-zx];exact k2
   .have hge:j=b.ts.length:=by omega
    subst hge;simp[go_sem,f5,f6,f8,f9,f11,f32,f33,f34,f39,f40,f41,w1];refine⟨hlt,Keep.mk' ⟨by simp[go_sem,f5],by simp[go_sem,f6],by simp[go_sem,f8],by simp[go_sem,f9],by simp[go_sem,f32],by simp[go_sem,f33],by simp[go_sem],?_⟩⟩;rw[ya hlt,qdG];rw[zw]at ho;exact⟨av,g0,g1,ho,n0,n1⟩
  .have hge:i=a.ts.length:=by omega
   subst hge;obtain⟨av,g0,g1,ho,n0,n1⟩:=hr;rw[zw]at ho;have hset:∀ c,(st.mu.set 0 c)[0]?=some c:=fun c=>za (qk.1 g0).1
   simp[go_sem,e5,e6,e8,e9,e32,e33,e34,g0,g1,hset,ho.v.one,ho.v.cells];refine wF (r:=prR n a b) ?_;unfold prR;rw[hM];refine OwnV.rdRel (ho.v.same fun b hb=>?_);rw[qK (fun e=>n0 (by rw[e];exact hb))]
 .have hn:(3:Int)<a.ar+b.ar:=by omega
  rw[if_neg hc];simp[go_sem,w0,hn];exact wF Qh
theorem qdI(n:Int)(h0:0<=n)(h12:n<=12)(a:Rl)(ha:GR n a)(h2:a.ar=2):qj qc 35 [aI n,eRel a] (eRel (trR n a)):=by
 refine qSQ call35 func35 rfl {} ?_;have hl:=ha.len h0 (by omega);have e2:powI n 2=n*n:=by
  have:=uq (n:=n) (i:=1) (j:=1) (by omega) (by omega) (by omega);rw[vB]at this;exact this
 have hnn:n*n<=12*12:=jt h12 h12 h0 (by omega);simp[go_sem,show (a.ts.length:Int)<=4294967296 by omega];refine qn.upK a.ts.length (fun k st=>st.tm 0=aI n/\st.tm 4 = .ptr 0 0/\st.tm 5 = .sl 1 1 0 a.ts.length/\st.tm 13=lI a.ts/\st.tm 14=aI a.ts.length/\st.tm 15=aI k/\st.mu=[.arr [aI 0,.lst true []],.arr ((((a.ts.take k).map fun t=>t % n*n+t / n)++qW (a.ts.length-k) 0).map aI)]) ?_ ?_
 .simp [go_sem]
 rintro k st hk ⟨e0,e4,e5,e13,e14,e15,hm⟩;by_cases hlt:k<a.ts.length
 .have w1:ql.wrap ((k:Int)+1)=(k:Int)+1:=qi (by omega) (by omega)
  obtain⟨v0,v1⟩:=ha.val _ (qw hlt);rw[h2,e2]at v1;have hn:0<n:=by
   rcases Int.lt_or_eq_of_le h0 with h|h
   .exact h
   .exfalso;rw[<-h,Int.mul_zero]at v1;omega
  have hq0:0<=a.ts[k] / n:=Int.ediv_nonneg v0 h0;have hq1:a.ts[k] / n<n:=Int.ediv_lt_of_lt_mul hn v1;have hr0:0<=a.ts[k] % n:=Int.emod_nonneg _ (by omega);have hr1:a.ts[k] % n<n:=Int.emod_lt_of_pos _ hn;obtain⟨m0,m1⟩:=U3 (x:=12) (y:=12) hr0 (by omega) h0 h12 (by omega);have d1:a.ts[k].tdiv n=a.ts[k] / n:=Int.tdiv_eq_ediv_of_nonneg v0;have d2:a.ts[k].tmod n=a.ts[k] % n:=uA v0;have w2:ql.wrap (a.ts[k] / n)=a.ts[k] / n:=qi (by omega) (by omega);have w3:ql.wrap (a.ts[k] % n*n)=a.ts[k] % n*n:=qi (by omega) (by omega);have w4:ql.wrap (a.ts[k] % n*n+a.ts[k] / n)=a.ts[k] % n*n+a.ts[k] / n:=qi (by omega) (by omega);have hn0:¬n=0:=by omega
  have hrep:qW (a.ts.length-k) (0:Int)=0 :: qW (a.ts.length-(k+1)) 0:=by
   rw[<-List.replicate_succ];congr 1;omega
  have hset:∀ v:Int,((((a.ts.take k).map fun t=>t % n*n+t / n)++qW (a.ts.length-k) 0).map aI).set k (aI v)=(((a.ts.take k).map fun t=>t % n*n+t / n)++v :: qW (a.ts.length-(k+1)) 0).map aI:=fun v=>by
   rw[<-List.map_set,hrep,List.set_append_right _ _ (by simp;omega)];simp[Nat.min_eq_left hk]
  have hlen:((((a.ts.take k).map fun t=>t % n*n+t / n)++qW (a.ts.length-k) 0).map aI).length=a.ts.length:=by simp;omega
  generalize hC:(((a.ts.take k).map fun t=>t % n*n+t / n)++qW (a.ts.length-k) 0).map aI=C at *
  simp[go_sem,e0,e4,e5,e13,e14,e15,hm,hlt];refine qg.intro (by kernel_rfl) ?_;simp[go_sem,e0,e4,e5,e13,e14,e15,hm,hlt,hn0,d1,d2,w2,w3,w4,hset,hlen,show k+1<=a.ts.length by omega,w1];refine Keep.mk' ⟨by simp[go_sem,e0],by simp[go_sem,e4],by simp[go_sem,e5],by simp[go_sem,e13],by simp[go_sem,e14],by simp[go_sem],?_⟩;simp only[qM];have e:(((a.ts.take (k+1)).map fun t=>t % n*n+t / n)++qW (a.ts.length-(k+1)) 0).map aI=(((a.ts.take k).map fun t=>t % n*n+t / n)++(a.ts[k] % n*n+a.ts[k] / n) :: qW (a.ts.length-(k+1)) 0).map aI:=by
   rw[ya hlt,zt (l₂:=[a.ts[k]]),zx];rfl
  rw[e];simp
 .have hge:k=a.ts.length:=by omega
  subst hge;rw[zw,Nat.sub_self,List.replicate_zero,zl]at hm;generalize hL:a.ts.map (fun t=>t % n*n+t / n)=L at *
  have hLl:L.length=a.ts.length:=by rw[<-hL];simp
  simp only[e0,e4,e5,e13,e14,e15,hm,go_sem];have hs:=UZ [.arr [aI 0,.lst true []],.arr (L.map aI)] 2 (.sl 1 1 0 a.ts.length) L (by omega) (.inr ⟨1,by rw[hLl],rfl⟩);simp[go_sem,e0,e4,e5,e13,e14,e15,hm];refine qe.eff0 hs ?_ ?_
  .rintro r m ⟨x,h,ho,hs2,hl2,hb2⟩
   cases h;have g0:=hs2 0 (by simp) (by simp[qt]);have hset:∀ c,(m.set 0 c)[0]?=some c:=fun c=>za (qk.1 g0).1
   simp at g0;have hx:qt x≠some 0:=fun h=>by have:=hb2 _ h;simp[qt]at this
   simp[go_sem,e0,e4,e5,g0,hset,ho.one,ho.cells];unfold trR;rw[hL];refine OwnV.rdRel (ho.same fun b hb=>?_);rw[qK (fun e=>hx (by rw[e];exact hb))]
  .rintro r m ⟨x,h,_⟩
   cases h
end ET
namespace EW
open EO EP EQ ER ET
inductive TagM (p:Mu->Prop):Type where
 |mk:TagM p
def jP(p:Mu->Prop)(_:TagM p)(mu:Mu):Prop:=p mu
theorem jP.intro{p:Mu->Prop}{mu:Mu}(h:p mu):jP p .mk mu:=h
theorem j5.keep{P:Program}{pl:Pol}{gf:FuncId}{caps:List AV}{ps:Array Tmp}{asg body:Code}{Q:qZ->St->Prop}{st:St}{rows:List (List AV)}(hit:y6 P gf caps rows)(I:Nat->Mu->Prop)(Ix:qZ->Mu->Prop)
  (h0:I 0 (st.mu++[.dead])) (hS:∀ k mu,I k mu->I k (mu++[.dead])) (hX:∀ e mu,Ix e mu->Ix e (mu++[.dead]))
  (hr:∀ k x mu,rows[k]?=some x->I k mu->x.length=ps.size/\awp P pl asg (asQ (fun st=>awp P pl body (rndQ (fun k=>jP (I k) .mk) (fun e=>jP (Ix e) .mk) k) st)) ⟨vO st.tm ps.toList x,mu⟩)
  (he:∀ mu,I rows.length mu->Q .normal ⟨st.tm,mu⟩) (hx:∀ e mu,Ix e mu->Q e ⟨st.tm,mu⟩):j5 P pl (.fn (.func gf) [] caps) ps asg body Q st:=
 j5.intro hit I Ix h0 hS hX hr he hx
abbrev tupCl(sc:Sc)(p:Int)(l:List Int):AV := .fn (.func 233) [] [.ip [lI l],.ip [aI p],.ip [lI sc.atoms,aI sc.steps]]
theorem kN(sc:Sc)(p:Int)(l:List Int):qj qc 203 [eSc sc,aI p,lI l] (tupCl sc p l):=by
 refine qSQ call203 func203 rfl {} ?_;simp[go_sem];refine .hf _ (HF.fn (fun c hc=>by simp at hc) (fun c hc=>?_));simp at hc;rcases hc with rfl|rfl|rfl
 .exact yK (yh _)
 .exact yK (HF.sc _)
 .exact HF.ip fun c hc=>by simp at hc;rcases hc with rfl|rfl<;>first|exact yh _|exact HF.sc _
def tupR(sc:Sc):List Int->Int->List Int
 | [],p=>[p]
 |s :: l,p=>(qu (gI sc.atoms s.toNat).toNat).flatMap fun k:Nat=>tupR sc l (p*sumI sc.atoms+(sumI (sc.atoms.take s.toNat)+k))
@[go_sem] theorem yl_cells(i:Nat):(AV.yl i).cells=[.yl i]:=rfl
@[go_sem] theorem yl_one(i:Nat):(AV.yl i).one=true:=rfl
theorem qdJ(sc:Sc)(p:Int):y6 qc 233 [.ip [lI []],.ip [aI p],.ip [lI sc.atoms,aI sc.steps]] [[aI p]]:=by
 refine y6.of call233 fun i I Ix hS hX hY mu h0=>?_
 refine qSW call233 func233 rfl {} ?_;simp[go_sem];refine qe.yield (hY 0 [aI p] mu rfl h0) ?_;rintro b mu' (⟨rfl,hI'⟩|⟨rfl,hx'⟩)
 .simp [go_sem]
  exact .inl hI'
 .simp [go_sem]
  exact .inr hx'
theorem qdK{i r:Nat}(h:i<r):∃ l,qu r=qu i++i :: l:=by
 refine⟨(qu r).drop (i+1),?_⟩;apply jr;intro j;by_cases hj:j<i
 .rw [qr (by simpa using hj),vY hj,vY (by omega)]
 .rw [q6 (by simp;omega),List.length_range]
  by_cases e:j=i
  .subst e;simp[h]
  .obtain ⟨d,hd⟩:∃ d,j-i=d+1:=⟨j-i-1,by omega⟩
   rw[hd,List.getElem?_cons_succ,yX];congr 1;omega
theorem qdL{α:Type}(f:Nat->List α){N k j:Nat}{x:α}(hk:k<N)(h:(f k)[j]?=some x):((qu N).flatMap f)[((qu k).flatMap f).length+j]?=some x:=by
 obtain⟨l,e⟩:=qdK hk;rw[e,List.flatMap_append,q6 (by omega),Nat.add_sub_cancel_left,ZM,qr (qk.1 h).1];exact h
theorem Yk{α:Type}(f:Nat->List α)(k:Nat):(qu (k+1)).flatMap f=(qu k).flatMap f++f k:=by
 rw[List.range_succ,List.flatMap_append];simp
theorem qdM(sc:Sc)(g:GSc sc)(hA:∀ a,a∈sc.atoms->0<=a)(s:Nat)(hs:s<sc.atoms.length)(l:List Int)(hl:l.length<=10)(p:Int)(hp:0<=p/\p<=1000000)
  (ih:∀ k:Nat,k<(gI sc.atoms s).toNat->y6 qc 233 [.ip [lI l],.ip [aI (p*sumI sc.atoms+(sumI (sc.atoms.take s)+k))],.ip [lI sc.atoms,aI sc.steps]] ((tupR sc l (p*sumI sc.atoms+(sumI (sc.atoms.take s)+k))).map fun t=>[aI t])) :
  y6 qc 233 [.ip [lI (s :: l)],.ip [aI p],.ip [lI sc.atoms,aI sc.steps]] ((tupR sc (s :: l) p).map fun t=>[aI t]):=by
 refine y6.of call233 fun i I Ix hS hX hY mu h0=>?_
 refine qSW call233 func233 rfl {} ?_;have hz:¬(l.length:Int)+1=0:=by omega
 have hfs:=qc2 sc g s (by omega);have hfw:WKs [eSc sc,aI s] [eSc sc,aI s] := .cons (.hf (jm sc)) (.cons (.hf (HF.sc _)) .nil);obtain⟨s0,s1⟩:=g.sum s;obtain⟨t0,t1⟩:=g.sum sc.atoms.length;rw[zw]at t0 t1;have hat:gI sc.atoms s=sc.atoms[s]:=w6 hs;have ha0:=hA _ (qw hs);obtain⟨u0,u1⟩:=g.sum (s+1);rw[w7 _ _ hs]at u1;have hau:=UT sc g;have haw:WKs [eSc sc] [eSc sc] := .cons (.hf (jm sc)) .nil;have hrows:tupR sc (s :: l) p=(qu (sc.atoms[s]).toNat).flatMap fun k:Nat=>tupR sc l (p*sumI sc.atoms+(sumI (sc.atoms.take s)+k)):=by
  rw[tupR,show (s:Int).toNat=s by omega,hat]
 rw[hat]at ih;obtain⟨m0,m1⟩:0<=p*sumI sc.atoms/\p*sumI sc.atoms<=1000000*20:=⟨Int.mul_nonneg hp.1 t0,jt hp.2 t1 t0 (by omega)⟩;have w2:ql.wrap (p*sumI sc.atoms)=p*sumI sc.atoms:=qi (by omega) (by omega);have w3:ql.wrap (sumI (sc.atoms.take s)+sc.atoms[s])=sumI (sc.atoms.take s)+sc.atoms[s]:=qi (by omega) (by omega);generalize hF:(fun k:Nat=>tupR sc l (p*sumI sc.atoms+(sumI (sc.atoms.take s)+k)))=F at *
 have hFk:∀ k:Nat,tupR sc l (p*sumI sc.atoms+(sumI (sc.atoms.take s)+k))=F k:=fun k=>by rw[<-hF]
 simp only[hFk]at ih;simp[go_sem,hz];refine qg.intro (by kernel_rfl) ?_;simp[go_sem];refine qe.pure hfs hfw ?_;generalize hn:sumI sc.atoms=n at *
 generalize hf:sumI (sc.atoms.take s)=f at *
 simp[go_sem];refine qn.keep (fun m st=>∃ k,m=(sc.atoms[s]).toNat-k/\k<=(sc.atoms[s]).toNat/\st.tm 1 = .ip [lI (s :: l)]/\st.tm 2 = .ip [aI p]/\st.tm 3 = .ip [lI sc.atoms,aI sc.steps]/\st.tm 4 = .ip [.yl i]/\st.tm 5=aI f/\st.tm 6=aI (f+(k:Nat))/\I ((qu k).flatMap F).length st.mu) (sc.atoms[s]).toNat ?_ ?_
 .exact ⟨0,by omega,by omega,by simp[go_sem],by simp[go_sem],by simp[go_sem],by simp[go_sem],by simp[go_sem],by simp[go_sem],by simpa[go_sem] using h0⟩
 rintro m st ⟨k,rfl,hk,e1,e2,e3,e4,e5,e6,hI⟩;simp[go_sem];refine qg.intro (by kernel_rfl) ?_;by_cases hlt:k<(sc.atoms[s]).toNat
 .have hb:f+(k:Int)<f+sc.atoms[s]:=by omega
  have w4:ql.wrap (p*n+(f+k))=p*n+(f+k):=qi (by omega) (by omega);have w5:ql.wrap (f+(k:Int)+1)=f+((k+1:Nat):Int):=by rw[qi (by omega) (by omega)];omega
  have hslw:WKs [eSc sc,aI (p*n+(f+k)),.lst false (l.map rI)] [eSc sc,aI (p*n+(f+k)),lI l] := .cons (.hf (jm sc)) (.cons (.hf (HF.sc _)) (.cons (.hf (yh l)) .nil));have htu:=kN sc (p*n+(f+k)) l;simp[go_sem,e1,e2,e3,e4,e5,e6,hs,w3,hb];refine qg.intro (by kernel_rfl) ?_;simp[go_sem,e1,e2,e3,e4,e5,e6];refine qe.pure hau haw ?_;have h1l:(1:Int)<=l.length+1:=by omega
  have htk:List.take l.length (l.map rI)=l.map rI:=zX (by simp);simp[go_sem,e1,e2,e3,e4,e5,e6,w2,w4,h1l,htk];refine⟨⟨_,_,⟨rfl,rfl⟩,(uO (s :: l)).ok⟩,?_⟩;refine qe.pure htu hslw ?_;simp[go_sem,e1,e2,e3,e4,e5,e6];refine j5.keep (ih k hlt) (fun j M=>I (((qu k).flatMap F).length+j) M) (fun e M=>e = .ret/\Ix M) ?_ ?_ ?_ ?_ ?_ ?_
  .simpa [go_sem] using hS _ _ hI
  .intro j M h;exact hS _ _ h
  .rintro e M ⟨h1,h2⟩;exact⟨h1,hX _ h2⟩
  .rintro j x M hj hIj
   rw[zj,ve]at hj;obtain⟨t,ht,rfl⟩:=hj;have hget:(((qu (sc.atoms[s]).toNat).flatMap F).map fun t=>[aI t])[((qu k).flatMap F).length+j]?=some [aI t]:=by
    rw[zj,qdL F hlt ht];rfl
   rw[<-hrows]at hget;refine⟨rfl,?_⟩;simp[go_sem,e1,e2,e3,e4,e5,e6];refine qe.yield (hY _ _ _ hget hIj) ?_;rintro b mu' (⟨rfl,hI'⟩|⟨rfl,hx'⟩)
   .simp [go_sem]
    exact jP.intro hI'
   .simp [go_sem]
    exact jP.intro ⟨rfl,hx'⟩
  .rintro M hIn
   simp[go_sem,e1,e2,e3,e4,e5,e6,w5];refine Keep.loop ((sc.atoms[s]).toNat-(k+1)) (by omega) ⟨k+1,rfl,by omega,by simp[go_sem,e1],by simp[go_sem,e2],by simp[go_sem,e3],by simp[go_sem,e4],by simp[go_sem,e5],by simp[go_sem],?_⟩;rw[Yk,zr];simpa[go_sem] using hIn
  .rintro e M ⟨rfl,h2⟩
   simp[go_sem];exact .inr h2
 .have hge:k=(sc.atoms[s]).toNat:=by omega
  have hb:¬f+(k:Int)<f+sc.atoms[s]:=by omega
  simp[go_sem,e1,e2,e3,e4,e5,e6,hs,w3,hb];rw[hrows,<-hge];exact .inl hI
def bdT:Nat->Int
 | 0=>1000000000
 | 1=>1000000
 | 2=>40000
 |_=>1000
theorem kO(d:Nat)(hd:d<3){p q n:Int}(h0:0<=p)(h1:p<=bdT (d+1))(n0:0<=n)(n1:n<=20)(q0:0<=q)(q1:q<=20):0<=p*n+q/\p*n+q<=bdT d/\p<=1000000:=by
 have a:0<=p*n:=Int.mul_nonneg h0 n0;have b:p*n<=bdT (d+1)*20:=jt h1 n1 n0 (by omega)
 match d,hd with
 | 0,_=>simp only[bdT]at *;omega
 | 1,_=>simp only[bdT]at *;omega
 | 2,_=>simp only[bdT]at *;omega
def OkS(sc:Sc)(l:List Int):Prop:=∀ s,s∈l->0<=s/\s<sc.atoms.length
theorem kP(sc:Sc)(g:GSc sc)(hA:∀ a,a∈sc.atoms->0<=a):∀(l:List Int),OkS sc l->l.length<=3->∀ p:Int,0<=p->p<=bdT l.length->y6 qc 233 [.ip [lI l],.ip [aI p],.ip [lI sc.atoms,aI sc.steps]] ((tupR sc l p).map fun t=>[aI t])
 | [],_,_,p,_,_=>qdJ sc p
 |s :: l,hs,hl,p,h0,h1=>by
  obtain⟨n,rfl⟩:∃ n:Nat,s=n:=⟨s.toNat,by have:=(hs s (by simp)).1;omega⟩;have hn:n<sc.atoms.length:=by have:=(hs n (by simp)).2;omega
  simp only[zO]at hl h1;obtain⟨t0,t1⟩:=g.sum sc.atoms.length;rw[zw]at t0 t1;refine qdM sc g hA n hn l (by omega) p ⟨h0,(kO l.length (by omega) h0 h1 t0 t1 (q:=0) (by omega) (by omega)).2.2⟩ fun k hk=>?_
  obtain⟨u0,u1⟩:=g.sum (n+1);rw[w7 _ _ hn]at u1;rw[w6 hn]at hk;obtain⟨s0,s1⟩:=g.sum n;obtain⟨b0,b1,_⟩:=kO l.length (by omega) h0 h1 t0 t1 (q:=sumI (sc.atoms.take n)+k) (by omega) (by omega);exact kP sc g hA l (fun x hx=>hs x (by simp[hx])) (by omega) _ b0 b1
theorem U4(sc:Sc)(g:GSc sc)(hA:∀ a,a∈sc.atoms->0<=a):∀(l:List Int),OkS sc l->∀ p,(tupR sc l p).length<=20 ^ l.length
 | [],_,p=>by simp[tupR]
 |s :: l,hs,p=>by
  obtain⟨n,rfl⟩:∃ n:Nat,s=n:=⟨s.toNat,by have:=(hs s (by simp)).1;omega⟩;have hn:n<sc.atoms.length:=by have:=(hs n (by simp)).2;omega
  obtain⟨u0,u1⟩:=g.sum (n+1);obtain⟨s0,s1⟩:=g.sum n;rw[w7 _ _ hn]at u1;have ih:=U4 sc g hA l (fun x hx=>hs x (by simp[hx]));rw[tupR,show (n:Int).toNat=n by omega,w6 hn];have key:∀ m:Nat,((qu m).flatMap fun k:Nat=>tupR sc l (p*sumI sc.atoms+(sumI (sc.atoms.take n)+k))).length<=m*20 ^ l.length:=by
   intro m;induction m with
   |zero=>simp
   |succ m ihm =>
    rw[Yk,zr,Nat.succ_mul];have:=ih (p*sumI sc.atoms+(sumI (sc.atoms.take n)+m));omega
  refine zz (key _) ?_;rw[zO,Nat.pow_succ,Nat.mul_comm];exact Nat.mul_le_mul_left _ (by omega)
theorem U5(n a b:Int):qj qc 202 [aI n,aI a,aI b] (aB (decide (a<=n)&&decide (n<=b))):=by
 refine qSQ call202 func202 rfl {} ?_;by_cases h1:a<=n
 .simp [go_sem,h1]
  exact .hf _ (HF.sc _)
 .simp [go_sem,h1]
  exact .hf _ (HF.sc _)
theorem wk3I(a b c:Int):WKs [aI a,aI b,aI c] [aI a,aI b,aI c] := .cons (.hf (HF.sc _)) (.cons (.hf (HF.sc _)) (.cons (.hf (HF.sc _)) .nil))
theorem fullU(sc:Sc)(g:GSc sc)(hA:∀ a,a∈sc.atoms->0<=a)(l:List Int)(hs:OkS sc l)(h1:1<=l.length)(h3:l.length<=3):qj qc 166 [eSc sc,lI l] (eRel ⟨l.length,tupR sc l 0⟩):=by
 refine qSQ call166 func166 rfl {} ?_;have b1:(1:Int)<=l.length:=by omega
 have b3:(l.length:Int)<=3:=by omega
 have hg:=g.1;have w1:=U5 l.length 1 3;rw[decide_eq_true b1,decide_eq_true b3]at w1;simp[go_sem];refine qe.pure w1 (wk3I _ _ _) ?_;simp[go_sem];refine qn.upK l.length (fun k st=>st.tm 1=lI l/\st.tm 2 = .ip [lI sc.atoms,aI sc.steps]/\st.tm 4 = .ptr 0 0/\st.tm 14=lI l/\st.tm 15=aI l.length/\st.tm 16=aI k/\st.mu=[.arr [aI 0,.lst true []]]) ?_ ?_
 .simp [go_sem]
 rintro k st hk ⟨e1,e2,e4,e14,e15,e16,hm⟩;by_cases hlt:k<l.length
 .have wk:ql.wrap ((k:Int)+1)=(k:Int)+1:=qi (by omega) (by omega)
  have wl:ql.wrap ((sc.atoms.length:Int)-1)=(sc.atoms.length:Int)-1:=qi (by omega) (by omega);obtain⟨q0,q1⟩:=hs _ (qw hlt);have w2:=U5 l[k] 0 ((sc.atoms.length:Int)-1);rw[decide_eq_true q0,decide_eq_true (by omega:l[k]<=(sc.atoms.length:Int)-1)]at w2;simp[go_sem,e1,e2,e4,e14,e15,e16,hm,hlt,wl];refine qe.pure w2 (wk3I _ _ _) ?_;simp[go_sem,e1,e2,e4,e14,e15,e16,hm,hlt,wk];exact Keep.mk' ⟨by simp[go_sem,e1],by simp[go_sem,e2],by simp[go_sem,e4],by simp[go_sem,e14],by simp[go_sem,e15],by simp[go_sem],by simp[go_sem]⟩
 .have hge:k=l.length:=by omega
  subst hge;have htl:=U4 sc g hA l hs 0;have hp:20 ^ l.length<=8000:=by
   have:l.length=1\/l.length=2\/l.length=3:=by omega
   rcases this with h|h|h<;>rw[h]<;>omega
  have hb0:(0:Int)<=bdT l.length:=by
   have:l.length=1\/l.length=2\/l.length=3:=by omega
   rcases this with h|h|h<;>rw[h]<;>simp[bdT]
  simp[go_sem,e1,e2,e4,e14,e15,e16,hm];refine qe.pure (kN sc 0 l) (.cons (.hf (jm sc)) (.cons (.hf (HF.sc _)) (.cons (.hf (yh l)) .nil))) ?_;simp[go_sem,e1,e2,e4,e14,e15,e16,hm];refine j5.keep (kP sc g hA l hs h3 0 (by omega) hb0) (fun j M=>RelM M l.length ((tupR sc l 0).take j)) (fun _ _=>False) ?_ ?_ ?_ ?_ ?_ ?_
  .exact ⟨.lst true [],by simp[go_sem],by simp[go_sem],.inl ⟨rfl,rfl⟩,by simp[qt],by simp[qt]⟩
  .rintro j M ⟨av,g0,g1,ho,n0,n1⟩
   exact⟨av,by rw[qr (qk.1 g0).1];exact g0,by rw[qr (qk.1 g1).1];exact g1,ho.same fun b hb=>by rw[qr (ho.v.lt hb)],n0,n1⟩
  .intro e M h;exact h
  .rintro j x M hj ⟨av,g0,g1,ho,n0,n1⟩
   rw[zj,ve]at hj;obtain⟨t,ht,rfl⟩:=hj;obtain⟨hjl,hte⟩:=qk.1 ht;refine⟨rfl,?_⟩;simp[go_sem,e1,e2,e4,g1];refine qF.ownV1 (e:=3) (bt:=8) (z:=0) (by simp[go_sem]) (by simp[go_sem]) (by simp[go_sem]) (by omega) ho.v (by simp;omega) ?_;intro av' mu' ho' hs' hl' hb';obtain⟨k1,k2⟩:=RelM.step g0 g1 n0 n1 ho' hs' hl' hb';simp[go_sem,e1,e2,e4,k1,ho'.v.one,ho'.v.cells];refine jP.intro ?_;rw[ya hjl,hte];exact k2
  .rintro M ⟨av,g0,g1,ho,n0,n1⟩
   rw[yO,zw]at ho;have hset:∀ c,(M.set 0 c)[0]?=some c:=fun c=>za (qk.1 g0).1
   simp[go_sem,e1,e2,e4,g0,g1,hset,ho.v.one,ho.v.cells];refine OwnV.rdRel (ho.v.same fun b hb=>?_);rw[qK (fun e=>n0 (by rw[e];exact hb))]
  .intro e M h;exact h.elim
end EW
namespace EU
open E1 EO EP EQ ER ET
abbrev imG(g:List (Int×List Int)):AV := .im (encK (fun n:Int=>aI n) lI g)
abbrev matC(n m:Int)(a b:Rl):List AV:=[.ip (cRel a),.ip [imG (grpK m b.ts)],.ip [aI n],.ip [aI m]]
theorem qdN(n m:Int)(hm:0<m)(hm2:m<=8000)(a b:Rl)(hb:∀ t,t∈b.ts->0<=t/\t<=1000000)(hl:b.ts.length<=1000000):qj qc 76 [aI n,aI m,eRel a,eRel b] (.fn (.func 141) [] (matC n m a b)):=by
 refine qSQ call76 func76 rfl {} ?_;obtain⟨B,hB⟩:∃ B,B=AV.mp 0:=⟨_,rfl⟩;have hBc:B.cells=[B]:=by rw[hB];rfl
 have hBo:B.one=true:=by rw[hB];rfl
 simp[go_sem];refine qn.upK b.ts.length (fun k st=>st.tm 4 = .ip [aI n]/\st.tm 5 = .ip [aI m]/\st.tm 6 = .ip (cRel a)/\st.tm 9 = .ptr 1 0/\st.tm 14=lI b.ts/\st.tm 15=aI b.ts.length/\st.tm 16=aI k/\st.mu[1]?=some (.arr [B])/\∃ cs,GrpM st.mu 0 (grpK m (b.ts.take k)) cs/\∀ q v,getK q cs=some v->∀ x,qt v=some x->2<=x) ?_ ?_
 .refine ⟨by simp[go_sem],by simp[go_sem],by simp[go_sem],by simp[go_sem],by simp[go_sem],by simp[go_sem],by simp[go_sem],by simp[go_sem,hB],[],GrpM.nil (by simp[go_sem]),fun q v h=>by simp[getK]at h⟩
 rintro k st hk ⟨e4,e5,e6,e9,e14,e15,e16,g1,cs,hG,h2⟩;by_cases hlt:k<b.ts.length
 .have w1:ql.wrap ((k:Int)+1)=(k:Int)+1:=qi (by omega) (by omega)
  obtain⟨v0,v1⟩:=hb _ (qw hlt);have d1:b.ts[k].tdiv m=b.ts[k] / m:=Int.tdiv_eq_ediv_of_nonneg v0;have d2:b.ts[k].tmod m=b.ts[k] % m:=uA v0;have q0:0<=b.ts[k] / m:=Int.ediv_nonneg v0 (by omega);have q1:b.ts[k] / m<=b.ts[k]:=Int.ediv_le_self _ v0;have w2:ql.wrap (b.ts[k] / m)=b.ts[k] / m:=qi (by omega) (by omega);have hm0:¬m=0:=by omega
  have hs:=kH m (b.ts.take k) b.ts[k];rw[<-ya hlt]at hs;have hcur:=hG.cur (b.ts[k] / m);have hl1:=keyI.look (et:=28) (t:=170) (by simp[go_sem]) (mu:=st.mu) (m := .mp 0) (venc:=id) (es:=cs) (by simp only[jw,hG.at0]) (k:=b.ts[k] / m) trivial (fun _ _=>trivial) (z := .lst true []) (by simp[go_sem]) false;have hlook:yc qc st.mu 170 B (aI (b.ts[k] / m)) false=some ((getK (b.ts[k] / m) cs).getD (.lst true [])):=by
   rw[hB];refine Eq.trans hl1 ?_;cases getK (b.ts[k] / m) cs<;>rfl
  have hstep:=fun (mu':Mu) (av:AV) (l:List Int)=>GrpM.step (mu':=mu') (av:=av) (l:=l) (k:=b.ts[k] / m) hG
  have hcb:∀ x,qt ((getK (b.ts[k] / m) cs).getD (.lst true []))=some x->2<=x:=by
   intro x hx;cases hc:getK (b.ts[k] / m) cs with
   |none=>rw[hc]at hx;simp[qt]at hx
   |some v=>rw[hc]at hx;exact h2 _ _ hc x hx
  have hcl:((getK (b.ts[k] / m) (grpK m (b.ts.take k))).getD []).length<=k:=by
   rw[J5 m b.ts k (by omega),yO];exact zz (List.length_filter_le _ _) (by simp;omega)
  simp[go_sem,e4,e5,e6,e9,e14,e15,e16,hlt];refine qg.seg [0,1,2,3,4,5,6,7,8,9,10,11,12,13,14] [(0,0,[]),(1,0,[]),(2,0,[]),(3,0,[]),(4,0,[]),(5,0,[]),(6,0,[]),(7,0,[]),(8,0,[]),(9,0,[]),(10,0,[]),(11,0,[]),(12,0,[]),(13,1,[0,2]),(14,1,[])] (by kernel_rfl) (by kernel_rfl) (by simp[go_sem]) ?_;simp[go_sem,e4,e5,e6,e9,e14,e15,e16,g1,hm0,d1,d2,w2,hlook];refine qF.ownV1 (e:=3) (bt:=8) (z:=0) (l:=(getK (b.ts[k] / m) (grpK m (b.ts.take k))).getD []) (by simp[go_sem]) (by simp[go_sem]) (by simp[go_sem]) (by omega) hcur.v (by omega) ?_;intro av' mu' ho' hs' hl' hb';obtain⟨k1,k2⟩:=hstep mu' av' _ ho' hs' hb';rw[<-hs]at k2;have hupd:vu qc mu' 170 (.mp 0) (aI (b.ts[k] / m)) av'=_:=keyI.update (et:=28) (t:=170) (by simp[go_sem]) (mu:=mu') (b:=0) (venc:=id) (es:=cs) k1 (k:=b.ts[k] / m) (v:=av') trivial (fun _ _=>trivial);have l1:1<st.mu.length:=(qk.1 g1).1;have g1':mu'[1]?=some (.arr [B]):=by rw[hs' 1 l1 (fun e=>by have:=hcb 1 e;omega)];exact g1
  simp[go_sem,e4,e5,e6,e9,e14,e15,e16,g1,g1',hm0,d1,d2,w2];subst hB;refine OptK.intro _ hupd ?_;simp[go_sem,e4,e5,e6,e9,e14,e15,e16,hlt,w1];refine Keep.mk' ⟨by simp[go_sem,e4],by simp[go_sem,e5],by simp[go_sem,e6],by simp[go_sem,e9],by simp[go_sem,e14],by simp[go_sem,e15],by simp[go_sem],?_,_,by simpa[go_sem] using k2,fun q v hq x hx=>?_⟩
  .simp only[qM]
   rw[qK (by omega)];exact g1'
  .rw [Qd]at hq
   split at hq
   .cases hq;have:=hb' x hx;omega
   .exact h2 q v hq x hx
 .have hge:k=b.ts.length:=by omega
  subst hge;rw[zw]at hG;simp[go_sem,e4,e5,e6,e9,e14,e15,e16];refine .fn _ _ _ _ _ rfl rfl (fun k x y hx=>by simp at hx) (fun k x y hx hy=>?_)
  match k with
  | 0=>simp at hx hy;subst hx;subst hy;exact .hf _ (HF.ip (Z9 a))
  | 1=>simp at hx hy;subst hx;subst hy;rw[hB]at g1;exact Rd.ip1 g1 (hG.rd (qc8 m b.ts))
  | 2=>simp at hx hy;subst hx;subst hy;exact .hf _ (yK (HF.sc _))
  | 3=>simp at hx hy;subst hx;subst hy;exact .hf _ (yK (HF.sc _))
  |k+4=>simp at hx
theorem lookG(mu:Mu)(m:Int)(ys:List Int)(k:Int):∃ f,yc qc mu 170 (imG (grpK m ys)) (aI k) false=some (.lst f (((getK k (grpK m ys)).getD []).map rI)):=by
 have:=keyI.look (et:=28) (t:=170) (by simp[go_sem]) (mu:=mu) (m:=imG (grpK m ys)) (venc:=lI) (es:=grpK m ys) rfl (k:=k) trivial (fun _ _=>trivial) (z := .lst true []) (by simp[go_sem]) false;simp only[yc];cases h:getK k (grpK m ys) with
 |none=>rw[h]at this;exact⟨true,this⟩
 |some l=>rw[h]at this;exact⟨false,this⟩
theorem qdO{α β:Type}(f:α->List β){l:List α}{k j:Nat}{x:β}(hk:k<l.length)(h:(f l[k])[j]?=some x):(l.flatMap f)[((l.take k).flatMap f).length+j]?=some x:=by
 have e:l=l.take k++l[k] :: l.drop (k+1):=by rw[<-zi hk,vh]
 have e2:l.flatMap f=(l.take k).flatMap f++(f l[k]++(l.drop (k+1)).flatMap f):=by
  conv=>lhs;rw[e]
  rw[List.flatMap_append,ZM]
 rw[e2,q6 (by omega),Nat.add_sub_cancel_left,qr (qk.1 h).1];exact h
theorem qdP(n m:Int)(hn:0<n)(hn2:n<=20)(hm:0<m)(hm2:m<=8000)(a b:Rl)(ha:∀ t,t∈a.ts->0<=t/\t<=1000000)(hal:a.ts.length<=1000000)(hbl:b.ts.length<=1000000) :
  y6 qc 141 (matC n m a b) ((joL n m a.ts b.ts).map fun t=>[aI t]):=by
 refine y6.of call141 fun i I Ix hS hX hY mu h0=>?_
 refine qSW call141 func141 rfl {} ?_;have hlk:=fun mu=>lookG mu m b.ts
 obtain⟨B,hB⟩:∃ B,B=imG (grpK m b.ts):=⟨_,rfl⟩;have hBc:B.cells=[B]:=by rw[hB];rfl
 have hBo:B.one=true:=by rw[hB];rfl
 simp only[<-hB]at hlk⊢;rw[<-qc9]at hY⊢;generalize hF:(fun s=>((getK (s % n) (grpK m b.ts)).getD []).map fun t=>s / n*m+t)=F at *
 have hFk:∀ s,F s=((getK (s % n) (grpK m b.ts)).getD []).map fun t=>s / n*m+t:=fun s=>by rw[<-hF]
 simp[go_sem];refine qn.upK a.ts.length (fun k st=>st.tm 0 = .yl i/\st.tm 2 = .ip [B]/\st.tm 3 = .ip [aI n]/\st.tm 4 = .ip [aI m]/\st.tm 11=lI a.ts/\st.tm 12=aI a.ts.length/\st.tm 13=aI k/\I ((a.ts.take k).flatMap F).length st.mu) ?_ ?_
 .exact ⟨by simp[go_sem],by simp[go_sem,hB],by simp[go_sem],by simp[go_sem],by simp[go_sem],by simp[go_sem],by simp[go_sem],by simpa[go_sem] using h0⟩
 rintro k st hk ⟨e0,e2,e3,e4,e11,e12,e13,hI⟩;by_cases hlt:k<a.ts.length
 .have w1:ql.wrap ((k:Int)+1)=(k:Int)+1:=qi (by omega) (by omega)
  obtain⟨v0,v1⟩:=ha _ (qw hlt);have d1:a.ts[k].tdiv n=a.ts[k] / n:=Int.tdiv_eq_ediv_of_nonneg v0;have d2:a.ts[k].tmod n=a.ts[k] % n:=uA v0;have q0:0<=a.ts[k] / n:=Int.ediv_nonneg v0 (by omega);have q1:a.ts[k] / n<=a.ts[k]:=Int.ediv_le_self _ v0;have w2:ql.wrap (a.ts[k] / n)=a.ts[k] / n:=qi (by omega) (by omega);have hn0:¬n=0:=by omega
  obtain⟨f,hlook⟩:=hlk st.mu (a.ts[k] % n);have hgl:((getK (a.ts[k] % n) (grpK m b.ts)).getD []).length<=1000000/\∀ t,t∈(getK (a.ts[k] % n) (grpK m b.ts)).getD []->0<=t/\t<m:=by
   have:=J5 m b.ts b.ts.length (qs _) (a.ts[k] % n);rw[zw]at this;rw[this];refine⟨by rw[yO];exact zz (List.length_filter_le _ _) hbl,fun t ht=>?_⟩;obtain⟨u,_,rfl⟩:=qq.1 ht;exact⟨Int.emod_nonneg _ (by omega),Int.emod_lt_of_pos _ hm⟩
  have hFs:=hFk a.ts[k];generalize (getK (a.ts[k] % n) (grpK m b.ts)).getD []=L at *
  obtain⟨m0,m1⟩:=U3 (x:=1000000) (y:=8000) q0 (by omega) (by omega:0<=m) hm2 (by omega);have w3:ql.wrap (a.ts[k] / n*m)=a.ts[k] / n*m:=qi (by omega) (by omega);simp[go_sem,e0,e2,e3,e4,e11,e12,e13,hlt];refine qg.intro (by kernel_rfl) ?_;simp[go_sem,e0,e2,e3,e4,e11,e12,e13,hlt,hBc,hBo,hn0,d1,d2,hlook];refine qn.upK L.length (fun j st=>st.tm 0 = .yl i/\st.tm 2 = .ip [B]/\st.tm 3 = .ip [aI n]/\st.tm 4 = .ip [aI m]/\st.tm 7=aI a.ts[k]/\st.tm 11=lI a.ts/\st.tm 12=aI a.ts.length/\st.tm 13=aI k/\st.tm 21 = .lst f (L.map rI)/\st.tm 22=aI L.length/\st.tm 23=aI j/\I (((a.ts.take k).flatMap F).length+j) st.mu) ?_ ?_
  .exact ⟨by simp[go_sem,e0],by simp[go_sem,e2],by simp[go_sem,e3],by simp[go_sem,e4],by simp[go_sem],by simp[go_sem,e11],by simp[go_sem,e12],by simp[go_sem,e13],by simp[go_sem],by simp[go_sem],by simp[go_sem],by simpa[go_sem] using hI⟩
  rintro j st hj ⟨f0,f2,f3,f4,f7,f11,f12,f13,f21,f22,f23,hI⟩;by_cases hlt2:j<L.length
  .have w4:ql.wrap ((j:Int)+1)=(j:Int)+1:=qi (by omega) (by omega)
   obtain⟨u0,u1⟩:=hgl.2 _ (qw hlt2);have w5:ql.wrap (a.ts[k] / n*m+L[j])=a.ts[k] / n*m+L[j]:=qi (by omega) (by omega);have hget:((a.ts.flatMap F).map fun t=>[aI t])[((a.ts.take k).flatMap F).length+j]?=some [aI (a.ts[k] / n*m+L[j])]:=by
    rw[zj,qdO F hlt (x:=a.ts[k] / n*m+L[j]) (by rw[hFs,zj,qv hlt2];rfl)];rfl
   simp[go_sem,f0,f2,f3,f4,f7,f11,f12,f13,f21,f22,f23,hlt2];refine qg.tail 8 (by kernel_rfl) ?_;simp[go_sem,f0,f2,f3,f4,f7,f11,f12,f13,f21,f22,f23,hlt2,hn0,d1,w2,w3,w5];refine qe.yield (hY _ _ _ hget hI) ?_;rintro b mu' (⟨rfl,hI'⟩|⟨rfl,hx'⟩)
   .simp [go_sem,f0,f2,f3,f4,f7,f11,f12,f13,f21,f22,f23,hlt2,w4]
    exact Keep.mk' ⟨by simp[go_sem,f0],by simp[go_sem,f2],by simp[go_sem,f3],by simp[go_sem,f4],by simp[go_sem,f7],by simp[go_sem,f11],by simp[go_sem,f12],by simp[go_sem,f13],by simp[go_sem,f21],by simp[go_sem,f22],by simp[go_sem],hI'⟩
   .simp [go_sem,f0,f2,f3,f4,f7,f11,f12,f13,f21,f22,f23,hlt2]
    exact .inr hx'
  .have hge:j=L.length:=by omega
   subst hge;simp[go_sem,f0,f2,f3,f4,f7,f11,f12,f13,f21,f22,f23,w1];refine⟨hlt,Keep.mk' ⟨by simp[go_sem,f0],by simp[go_sem,f2],by simp[go_sem,f3],by simp[go_sem,f4],by simp[go_sem,f11],by simp[go_sem,f12],by simp[go_sem],?_⟩⟩;rw[ya hlt,List.flatMap_append,zr];simpa[go_sem,hFs] using hI
 .have hge:k=a.ts.length:=by omega
  subst hge;rw[zw]at hI;simp[go_sem,e0,e2,e3,e4,e11,e12,e13];exact .inl (by simpa[List.length_flatMap] using hI)
end EU
namespace EC
open E1 E2
theorem kQ(n:Int):powI n 2=n*n:=by
 have:=uq (n:=n) (i:=1) (j:=1) (by omega) (by omega) (by omega);rw[vB]at this;exact this
end EC
namespace EY
open E1 E2 E3 EO EP EQ ET EW EU EC
def GatM(mu:Mu)(l:List Int):Prop:=∃ av,mu[0]?=some (.arr [aI 0,.lst true []])/\mu[1]?=some (.arr [av])/\OwnI mu av l/\qt av≠some 0/\qt av≠some 1
theorem GatM.step{mu mu':Mu}{av av':AV}{l:List Int}(h0:mu[0]?=some (.arr [aI 0,.lst true []]))(h1:mu[1]?=some (.arr [av]))(n0:qt av≠some 0)(n1:qt av≠some 1)(ho:OwnI mu' av' l)
  (hs:∀ i,i<mu.length->qt av≠some i->mu'[i]?=mu[i]?) (hl:mu.length<=mu'.length) (hb:∀ b,qt av'=some b->b=mu.length):mu'[1]?=some (.arr [av])/\GatM (mu'.set 1 (.arr [av'])) l:=by
 have l1:1<mu.length:=(qk.1 h1).1;have m0:qt av'≠some 0:=fun e=>by have:=hb 0 e;omega
 have m1:qt av'≠some 1:=fun e=>by have:=hb 1 e;omega
 refine⟨by rw[hs 1 l1 n1];exact h1,av',by rw[qK (by omega),hs 0 (by omega) n0];exact h0,by rw[za (by omega)],ho.same fun b hb'=>?_,m0,m1⟩;rw[qK (fun e=>m1 (by rw[e];exact hb'))]
theorem GatM.push{mu:Mu}{l:List Int}(h:GatM mu l):GatM (mu++[.dead]) l:=by
 obtain⟨av,g0,g1,ho,n0,n1⟩:=h;exact⟨av,by rw[qr (qk.1 g0).1];exact g0,by rw[qr (qk.1 g1).1];exact g1,ho.same fun b hb=>by rw[qr (ho.v.lt hb)],n0,n1⟩
theorem GR.none{n:Int}(h:n=0){a:Rl}(g:GR n a):a.ts=[]:=by
 cases ht:a.ts with
 |nil=>rfl
 |cons t l =>
  exfalso;obtain⟨v0,v1⟩:=g.val t (by rw[ht];simp);have a1:=g.ar1;rw[Zm (by omega) g.ar3,h]at v1;have:(0:Int) ^ a.ar.toNat=0:=by
   obtain⟨k,hk⟩:∃ k,a.ar.toNat=k+1:=⟨a.ar.toNat-1,by omega⟩;rw[hk,Int.pow_succ,Int.mul_zero]
  omega
theorem qdQ(n m:Int)(x y:List Int):(joL n m x y).length<=x.length*y.length:=by
 induction x with
 |nil=>simp[joL]
 |cons s x ih =>
  simp only[joL,ZM,zr,yO,zO]at ih⊢;have:=List.length_filter_le (fun t=>decide (t / m=s % n)) y;rw[Nat.add_mul];omega
theorem ul(n:Int)(h0:0<=n)(h12:n<=12)(a b:Rl)(ha:GR n a)(hb:GR n b)(hs:a.ar+b.ar<=5->a.ts.length*b.ts.length<=1000000):qj qc 32 [aI n,eRel a,eRel b] (match un n a b with | .ok r => .tup [eRel r,aI 0] | .error e => .tup [eRel ⟨0,[]⟩,aI e]):=by
 refine qSQ call32 func32 rfl {} ?_;have a1:=ha.ar1;have a3:=ha.ar3;have b1:=hb.ar1;have b3:=hb.ar3;have la:=ha.len h0 (by omega);have lb:=hb.len h0 (by omega);have w0:ql.wrap (a.ar+b.ar)=a.ar+b.ar:=qi (by omega) (by omega);have w1:ql.wrap (a.ar+b.ar-2)=a.ar+b.ar-2:=qi (by omega) (by omega);unfold un;by_cases hc1:1<=a.ar+b.ar-2
 case neg =>
  have hn:a.ar+b.ar-2<1:=by omega
  rw[if_neg (by omega)];simp[go_sem,w0,w1,hn];exact wF Qh
 by_cases hc3:a.ar+b.ar-2<=3
 case neg =>
  have hn:¬a.ar+b.ar-2<1:=by omega
  have hn3:3<a.ar+b.ar-2:=by omega
  rw[if_neg (by omega)];simp[go_sem,w0,w1,hn,hn3];exact wF Qh
 have hn:¬a.ar+b.ar-2<1:=by omega
 have hn3:¬ 3<a.ar+b.ar-2:=by omega
 rw[if_pos ⟨hc1,hc3⟩];by_cases hz:n=0
 .have e:joR n a b=⟨a.ar+b.ar-2,[]⟩:=by
   unfold joR;rw[GR.none hz ha];rfl
  simp[go_sem,w0,w1,hn,hn3,hz];subst hz;rw[e];exact wF Qh
 have hn1:1<=n:=by omega
 have w2:ql.wrap (b.ar-1)=b.ar-1:=qi (by omega) (by omega);have hp:0<powI n (b.ar-1):=Int.pow_pos (by omega);obtain⟨p0,p1⟩:=uW (k:=b.ar-1) h0 (by omega:n<=20);obtain⟨q0,q1⟩:=uW (k:=b.ar) h0 (by omega:n<=20);obtain⟨r0,r1⟩:=uW (k:=a.ar) h0 (by omega:n<=20);have hav:∀ t,t∈a.ts->0<=t/\t<=1000000:=fun t ht=>by have:=ha.val t ht;omega
 have hbv:∀ t,t∈b.ts->0<=t/\t<=1000000:=fun t ht=>by have:=hb.val t ht;omega
 have hpw:=U2 n h0 (by omega) (b.ar-1) (by omega) (by omega);have hJ:joR n a b=⟨a.ar+b.ar-2,ofL (joL n (powI n (b.ar-1)) a.ts b.ts)⟩:=rfl;have hjl:=qdQ n (powI n (b.ar-1)) a.ts b.ts;have hs:=hs (by omega);have hmt:=qdN n (powI n (b.ar-1)) hp p1 a b hbv (by omega);have hmi:=qdP n (powI n (b.ar-1)) (by omega) (by omega) hp p1 a b hav (by omega) (by omega);have hmw:WKs [aI n,aI (powI n (b.ar-1)),eRel a,eRel b] [aI n,aI (powI n (b.ar-1)),eRel a,eRel b] := .cons (.hf (HF.sc _)) (.cons (.hf (HF.sc _)) (.cons (.hf (qR a)) (.cons (.hf (qR b)) .nil)));simp only[hJ];generalize powI n (b.ar-1)=m at *
 generalize joL n m a.ts b.ts=J at *
 simp[go_sem,w0,w1,hn,hn3,hz];refine qg.intro (by kernel_rfl) ?_;simp[go_sem,w2];refine qe.pure hpw (.cons (.hf (HF.sc _)) (.cons (.hf (HF.sc _)) .nil)) ?_;simp[go_sem];refine qe.pure hmt hmw ?_;simp[go_sem];refine j5.keep hmi (fun j M=>GatM M (J.take j)) (fun _ _=>False) ?_ ?_ ?_ ?_ ?_ ?_
 .exact ⟨.lst true [],by simp[go_sem],by simp[go_sem],.inl ⟨rfl,rfl⟩,by simp[qt],by simp[qt]⟩
 .exact fun j M h=>h.push
 .intro e M h;exact h
 .rintro j x M hj ⟨av,g0,g1,ho,n0,n1⟩
  rw[zj,ve]at hj;obtain⟨t,ht,rfl⟩:=hj;obtain⟨hjl',hte⟩:=qk.1 ht;refine⟨rfl,?_⟩;simp[go_sem,g1];refine qF.ownV1 (e:=3) (bt:=8) (z:=0) (by simp[go_sem]) (by simp[go_sem]) (by simp[go_sem]) (by omega) ho.v (by simp;omega) ?_;intro av' mu' ho' hs' hl' hb';obtain⟨k1,k2⟩:=GatM.step g0 g1 n0 n1 ho' hs' hl' hb';simp[go_sem,k1,ho'.v.one,ho'.v.cells];refine jP.intro ?_;rw[ya hjl',hte];exact k2
 .rintro M ⟨av,g0,g1,ho,n0,n1⟩
  rw[yO,zw]at ho;simp[go_sem,g1,ho.v.one];refine qe.eff0 (UZ M _ av J (by omega) ho) ?_ ?_
  .rintro r m' ⟨x,h,ho2,hs2,hl2,hb2⟩
   cases h;have h1:=hs2 0 (qk.1 g0).1 n0;rw[g0]at h1;have hset:∀ c,(m'.set 0 c)[0]?=some c:=fun c=>za (qk.1 h1).1
   have hx:qt x≠some 0:=fun h=>n0 (hb2 _ h)
   simp[go_sem,h1,hset,ho2.one,ho2.cells];refine wF (r:=⟨a.ar+b.ar-2,ofL J⟩) (OwnV.rdRel (ho2.same fun b hb=>?_));rw[qK (fun e=>hx (by rw[e];exact hb))]
  .rintro r m' ⟨x,h,_⟩
   cases h
 .intro e M h;exact h.elim
theorem qdR(p:List Int)(hl:p.length<=1000000000):qj qc 79 [lI p] (lI p):=by
 refine qSQ call79 func79 rfl {} ?_;cases p with
 |nil =>
  simp[go_sem,lI];refine⟨.wk _ true _ (.hf _ (HF.lst (full:=true) (xs:=[]) fun r hr=>by simp at hr)),?_⟩;refine qF.ownVs (e:=3) (bt:=8) (z:=0) (l:=[]) (ys:=[]) (by simp[go_sem]) (by simp[go_sem]) (by simp[go_sem]) (by omega) (.inl ⟨rfl,rfl⟩) (by simp[qI]) (by simp) ?_;intro av mu' ho _ _ _;simp[go_sem];exact ho.v.rd
 |cons x l =>
  simp[go_sem,lI];refine qF.ownVs (e:=3) (bt:=8) (z:=0) (l:=[]) (ys:=x :: l) (by simp[go_sem]) (by simp[go_sem]) (by simp[go_sem]) (by omega) (.inl ⟨rfl,rfl⟩) (by simp[qI]) (by simp at hl⊢;omega) ?_;intro av mu' ho _ _ _;simp[go_sem];exact ho.v.rd
theorem J7{n:Int}(h0:0<=n)(h12:n<=12){a:Rl}(g:GR n a)(h2:a.ar=2):a.ts.length<=144:=by
 have e:=kQ n;have hn:n*n<=12*12:=jt h12 h12 h0 (by omega);exact Yg g.srt fun t ht=>by have:=g.val t ht;rw[h2,e]at this;omega
theorem qdS{a b:Rl}(hs:z8 a.ts):a.ts.length<=(unR a b).ts.length:=by
 refine jF (JR hs) fun x hx=>?_
 exact(JS (a.ts++b.ts)).2 x |>.2 (yP _ hx)
theorem wkJ(n:Int)(a b:Rl):WKs [aI n,eRel a,eRel b] [aI n,eRel a,eRel b] := .cons (.hf (HF.sc _)) (.cons (.hf (qR a)) (.cons (.hf (qR b)) .nil))
theorem wkR2(a b:Rl):WKs [eRel a,eRel b] [eRel a,eRel b] := .cons (.hf (qR a)) (.cons (.hf (qR b)) .nil)
theorem closU(n:Int)(h0:0<=n)(h12:n<=12)(a:Rl)(ha:GR n a)(h2:a.ar=2):qj qc 36 [aI n,eRel a] (eRel (clR n 200 a)):=by
 refine qSQ call36 func36 rfl {} ?_;have hal:=J7 h0 h12 ha h2;simp[go_sem];refine qe.pure (qdR a.ts (by omega)) (.cons (.hf (yh _)) .nil) ?_;simp[go_sem];refine qn.keep (fun m st=>∃ c,m=145-c.ts.length/\GR n c/\c.ar=2/\(∃ f,145<=f+c.ts.length/\clR n f c=clR n 200 a)/\st.tm 0=aI n/\st.tm 4 = .ptr 0 0/\st.tm 5 = .ptr 1 0/\∃ rest,st.mu = .arr [aI 0,.lst true []] :: .arr (cRel c) :: rest) (145-a.ts.length) ?_ ?_
 .exact ⟨a,rfl,ha,h2,⟨200,by omega,rfl⟩,by simp[go_sem],by simp[go_sem],by simp[go_sem],[],by simp[go_sem,h2]⟩
 rintro m st ⟨c,rfl,gc,c2,⟨f,hf,hcl⟩,e0,e4,e5,rest,hm⟩;have hl0:=J7 h0 h12 gc c2;have gj:=GR.join h0 gc gc (by omega) (by omega);have gu:=GR.union gc gj (by show c.ar=c.ar+c.ar-2;omega);have hul:=J7 h0 h12 gu c2;have hge:=qdS (b:=joR n c c) gc.srt;have hj:=ul n h0 h12 c c gc gc fun _=>zz (Nat.mul_le_mul hl0 hl0) (by omega)
 have hje:un n c c = .ok (joR n c c):=by unfold un;rw[if_pos ⟨by omega,by omega⟩]
 rw[hje]at hj;have hjl:=J7 h0 h12 gj (by show c.ar+c.ar-2=2;omega);have hu:=jO c (joR n c c) (by omega) (by omega);simp[go_sem,e0,e4,e5,hm];refine qe.pure hj (wkJ n c c) ?_;simp[go_sem,e0,e4,e5,hm];refine qe.pure hu (wkR2 c (joR n c c)) ?_;generalize hU:unR c (joR n c c)=U at *
 by_cases he:U.ts.length=c.ts.length
 .have hr:clR n 200 a=c:=by
   rw[<-hcl];cases f with
   |zero=>omega
   |succ f=>rw[clR,hU,if_pos he]
  rw[hr];simp[go_sem,e0,e4,e5,hm,he];exact .hf _ (qR c)
 .have hcl2:∃ f,145<=f+U.ts.length/\clR n f U=clR n 200 a:=by
   cases f with
   |zero=>omega
   |succ f =>
    rw[clR,hU,if_neg he]at hcl;exact⟨f,by omega,hcl⟩
  have hU2:U.ar=2:=by rw[<-hU];exact c2
  simp[go_sem,e0,e4,e5,hm,he];exact Keep.loop (145-U.ts.length) (by omega) ⟨U,rfl,gu,hU2,hcl2,by simp[go_sem,e0],by simp[go_sem,e4],by simp[go_sem,e5],_,by simp[go_sem];rfl⟩
end EY
namespace EZ
open E1 E2 EO EP EQ ER ET EY
theorem kR(m:Int)(hm:0<m)(x:Int)(hx:0<=x/\x<=1000000):qj qc 150 [aI x,.ip [aI m]] (aI (x / m)):=by
 refine qSQ call150 func150 rfl {} ?_;have d1:x.tdiv m=x / m:=Int.tdiv_eq_ediv_of_nonneg hx.1;have q0:0<=x / m:=Int.ediv_nonneg hx.1 (by omega);have q1:x / m<=x:=Int.ediv_le_self _ hx.1;have w2:ql.wrap (x / m)=x / m:=qi (by omega) (by omega);simp[go_sem,show ¬m=0 by omega,d1,w2];exact .hf _ (HF.sc _)
abbrev ovF(m:Int):AV := .fn (.func 150) [] [.ip [aI m]]
theorem Zn(m:Int):HF (ovF m):=HF.fn (by simp) (by simp;exact yK (HF.sc _))
theorem FnOk.ov(m:Int)(hm:0<m)(ok:Int->Prop)(h:∀ x,ok x->0<=x/\x<=1000000):FnOk qc (ovF m) (fun x:Int=>aI x) ok (fun x=>aI (x / m)):=
 ⟨Zn m,_,[],_,rfl,fun x hx=>⟨_,.cons (.hf (HF.sc _)) (.cons (.hf (yK (HF.sc _))) .nil),kR m hm x (h x hx)⟩⟩
theorem qdT(m:Int)(hm:0<m)(ts:List Int)(x:Int)(hx:0<=x/\x<=1000000):qj qc 151 [aI x,.ip [imC (cntK (fun t=>t / m) ts)],.ip [ovF m]] (aB (decide ((getK (x / m) (cntK (fun t=>t / m) ts)).getD 0=0))):=by
 refine qSQ call151 func151 rfl {} ?_;have hl:=fun mu=>U1 mu (fun t=>t / m) ts (x / m)
 have hBc:(imC (cntK (fun t=>t / m) ts)).cells=[imC (cntK (fun t=>t / m) ts)]:=rfl;have hBo:(imC (cntK (fun t=>t / m) ts)).one=true:=rfl;generalize imC (cntK (fun t=>t / m) ts)=B at *
 simp[go_sem];refine qg.intro (by kernel_rfl) ?_;simp[go_sem];refine qe.clo (kR m hm x hx) (.cons (.hf (HF.sc _)) (.cons (.hf (yK (HF.sc _))) .nil)) ?_;simp[go_sem,hl];exact .hf _ (HF.sc _)
theorem qdU(m:Int)(ts:List Int)(x:Int):(getK (x / m) (cntK (fun t=>t / m) ts)).getD 0=0↔∀ u,u∈ts->u / m≠x / m:=by
 obtain⟨h1,h2⟩:=kG (fun t=>t / m) ts (x / m);constructor
 .intro h u hu e
  have:=h2.2 ⟨u,hu,e⟩;omega
 .intro h
  have:¬ 0<(getK (x / m) (cntK (fun t=>t / m) ts)).getD 0:=fun hp=>by
   obtain⟨u,hu,e⟩:=h2.1 hp;exact h u hu e
  omega
theorem overU(n:Int)(h0:0<=n)(h12:n<=12)(a b:Rl)(ha:GR n a)(hb:GR n b)(e:a.ar=b.ar):qj qc 83 [aI n,eRel a,eRel b] (eRel (ovR n a b)):=by
 refine qSQ call83 func83 rfl {} ?_;have b1:=hb.ar1;have b3:=hb.ar3;have la:=ha.len h0 (by omega);have lb:=hb.len h0 (by omega);by_cases hz:n=0
 .have hr:ovR n a b=⟨a.ar,[]⟩:=by
   unfold ovR unR;rw[GR.none hz ha,GR.none hz hb,e];rfl
  rw[hr];simp[go_sem,hz];exact Qh
 have w2:ql.wrap (b.ar-1)=b.ar-1:=qi (by omega) (by omega);have hp:0<powI n (b.ar-1):=Int.pow_pos (by omega);obtain⟨p0,p1⟩:=uW (k:=b.ar-1) h0 (by omega:n<=20);obtain⟨q0,q1⟩:=uW (k:=b.ar) h0 (by omega:n<=20);obtain⟨r0,r1⟩:=uW (k:=a.ar) h0 (by omega:n<=20);have hav:∀ t,t∈a.ts->0<=t/\t<=1000000:=fun t ht=>by have:=ha.val t ht;omega
 have hbv:∀ t,t∈b.ts->0<=t/\t<=1000000:=fun t ht=>by have:=hb.val t ht;omega
 have hpw:=U2 n h0 (by omega) (b.ar-1) (by omega) (by omega);unfold ovR;generalize powI n (b.ar-1)=m at *
 have hst:=setU b (ovF m) (fun t=>t / m) (FnOk.ov m hp (·∈b.ts) hbv) (by omega);have hfi:=Qg (cntK (fun t=>t / m) b.ts);have hk:=U0 a.ts (.fn (.func 151) [] [.ip [imC (cntK (fun t=>t / m) b.ts)],.ip [ovF m]]) (fun t=>decide (∀ u,u∈b.ts->u / m≠t / m)) ⟨HF.fn (by simp) (by simp;exact⟨yK hfi,yK (Zn m)⟩),_,[],_,rfl,fun x hx=>⟨_,.cons (.hf (HF.sc _)) (.cons (.hf (yK hfi)) (.cons (.hf (yK (Zn m))) .nil)),by have:=qdT m hp b.ts x (hav x hx);simp only[qdU m b.ts x]at this;exact this⟩⟩ (by omega);have hBc:(imC (cntK (fun t=>t / m) b.ts)).cells=[imC (cntK (fun t=>t / m) b.ts)]:=rfl;have hBo:(imC (cntK (fun t=>t / m) b.ts)).one=true:=rfl;generalize imC (cntK (fun t=>t / m) b.ts)=B at *
 have hkw:WKs [lI a.ts,.fn (.func 151) [] [.ip [B],.ip [ovF m]]] [lI a.ts,.fn (.func 151) [] [.ip [B],.ip [ovF m]]] := .cons (.hf (yh _)) (.cons (.hf (HF.fn (by simp) (by simp;exact⟨yK hfi,yK (Zn m)⟩))) .nil);have hfl:=List.length_filter_le (fun t=>decide (∀ u,u∈b.ts->u / m≠t / m)) a.ts;have hu:=jO b ⟨a.ar,a.ts.filter fun t=>decide (∀ u,u∈b.ts->u / m≠t / m)⟩ (by omega) (zz hfl (by omega));have huw:=wkR2 b ⟨a.ar,a.ts.filter fun t=>decide (∀ u,u∈b.ts->u / m≠t / m)⟩;generalize a.ts.filter (fun t=>decide (∀ u,u∈b.ts->u / m≠t / m))=K at *
 simp[go_sem,hz];rw[w2];refine qe.pure hpw (.cons (.hf (HF.sc _)) (.cons (.hf (HF.sc _)) .nil)) ?_;simp[go_sem];refine qe.eff0 (qX.freezeM (args1:=[eRel b,ovF m]) (mu':=[.arr [aI 0,.lst true []],.dead,.arr [ovF m]]) (fun i=>i == 1) ?_ ?_ (hst.toSound _ (.cons (.hf (qR b)) (.cons (.hf (Zn m)) .nil)))) ?_ ?_
 .exact ⟨.same _,.fn _ _ _ _ _ rfl rfl (by simp) (fun k x y hx hy=>by
   match k with
   | 0=>simp at hx hy;subst hx;subst hy;exact .rd _ _ (Rd.ip1 rfl (.hf _ (HF.sc _)))
   |k+1=>simp at hx),trivial⟩
 .refine ⟨rfl,fun i c' h1 h2=>?_⟩
  match i with
  | 0=>simp at h1;subst h1;exact⟨rfl,_,rfl,by simp,.inl rfl⟩
  | 1=>simp at h1;exact absurd h1.symm h2
  | 2 =>
   simp at h1;subst h1;exact⟨rfl,_,rfl,by simp,.inr ⟨_,_,rfl,rfl,⟨.fn _ _ _ _ _ rfl rfl (by simp) (fun k x y hx hy=>by
    match k with
    | 0=>simp at hx hy;subst hx;subst hy;exact .rd _ _ (Rd.ip1 rfl (.hf _ (HF.sc _)))
    |k+1=>simp at hx),trivial⟩,rfl⟩⟩
  |i+3=>simp at h1
 .rintro r mu' ⟨h,rfl⟩
  cases h;simp[go_sem,hBc,hBo];refine qg.fz (FzQ.one (d:=8) (b:=2) (x := .ip [ovF m]) (Rd.ip1 rfl (.hf _ (Zn m))) ?_);refine qg.fz (FzQ.one (d:=9) (b:=3) (x := .ip [B]) ?_ ?_)
  .simp [go_sem,cutM]
   exact Rd.ip1 rfl (.hf _ hfi)
  simp[go_sem,cutM];refine qg.intro (by kernel_rfl) ?_;simp[go_sem];refine qe.pure hk hkw ?_;simp[go_sem];refine qe.pure hu huw ?_;simp[go_sem];exact .hf _ (qR _)
 .rintro r mu' ⟨h,rfl⟩
  cases h
end EZ
namespace Y10
open Y1 Y2 Y3 P1 Y6 Y7 YF Y9
abbrev rB(b:Bool):List AV:=[aB b]
theorem uZ(l:List Bool):zm 1 (l.map rB):=fun r hr=>by
 obtain⟨n,_,rfl⟩:=qq.1 hr;exact⟨rfl,rfl⟩
theorem OwnF.rdB{lo:Nat}{mu:Mu}{av:AV}{xs:List Bool}(h:OwnF lo mu 1 av (xs.map rB)):Rd mu av (.lst false (xs.map rB)):=
 h.1.rd (uZ xs).ok fun r hr c hc=>by
  obtain⟨n,_,rfl⟩:=qq.1 hr;simp at hc;subst hc;exact HF.sc _
theorem U6{lo sz:Nat}{mu mu':Mu}{av:AV}{xs:List (List AV)}(h:OwnF lo mu sz av xs)(hm:MuLe mu mu'):OwnF lo mu' sz av xs:=by
 obtain⟨ho,hb,hl⟩:=h;have hlen:mu.length<=mu'.length:=by
  rcases Nat.eq_zero_or_pos mu.length with h0|h0
  .omega
  .have:=hm (mu.length-1) mu[mu.length-1] (qv (by omega))
   have:=(qk.1 this).1;omega
 refine⟨?_,hb,zz hl hlen⟩;rcases ho with rfl|⟨b,rfl,hc⟩
 .exact .inl rfl
 .exact .inr ⟨b,rfl,hm _ _ hc⟩
theorem Qi(ts:TS):∀ k,k<=ts.preds.length->(tmsL ts k).length=k
 | 0,_=>rfl
 |k+1,h=>by
  have hk:k<ts.preds.length:=by omega
  simp[tmsL,Qi ts k (by omega),qv hk]
theorem Zo{ts:TS}(h:okTS ts){k:Nat}(hk:k<=ts.preds.length):okCk (mkCk ts k):=⟨h,hk,Nat.le_of_eq (Qi ts k hk).symm⟩
theorem qdV(ts:TS)(h:okTS ts)(hs:∀ p,p∈ts.preds->Small p.body)(n:Nat)(hn:n<=ts.preds.length):qj qc 182 [eTS ts,aI n] (eCk (mkCk ts n)):=by
 refine qSQ call182 func182 rfl { mt:=[9] } ?_;have hnp:=h.np;simp[go_sem];refine qn.upK n (fun k st=>∃ av rest,st.tm 1=aI n/\st.tm 2 = .ip (cTS ts)/\st.tm 5 = .ptr 0 0/\st.mu=[.arr [lSo ts.sorts,lFl ts.fields,lPd ts.preds,lFa ts.facts,aI k,av]]++rest/\OwnF 1 st.mu 1 av ((tmsL ts k).map rB)) ?_ ?_
 .refine ⟨.lst true [],[],by simp[go_sem],by simp[go_sem],by simp[go_sem],by simp[go_sem],?_⟩
  exact OwnF.nil (by simp[go_sem])
 .rintro k st hk ⟨av,rest,e1,e2,e5,hm,ho⟩
  have hrd:Rd st.mu (.ptr 0 0) (eCk (mkCk ts k)):=by
   rw[hm];refine .ptr 0 0 _ _ rfl (by simp) (fun j x y hx hy=>?_);rw[<-hm]
   match j with
   | 0=>simp at hx hy;subst hx;subst hy;exact .hf _ (JN _)
   | 1=>simp at hx hy;subst hx;subst hy;exact .hf _ (JO _)
   | 2=>simp at hx hy;subst hx;subst hy;exact .hf _ (wC _)
   | 3=>simp at hx hy;subst hx;subst hy;exact .hf _ (Ye _)
   | 4=>simp at hx hy;subst hx;subst hy;exact .hf _ (HF.sc _)
   | 5=>simp at hx hy;subst hx;subst hy;exact OwnF.rdB ho
   |j+6=>simp at hx
  by_cases hlt:k<n
  .have hkp:k<ts.preds.length:=by omega
   simp[go_sem,e1,e2,e5,hm,hlt];refine qg.intro (by kernel_rfl) ?_;have ho':OwnF 1 (st.mu++[.arr (cNd ts.preds[k].body)]) 1 av ((tmsL ts k).map rB):=U6 ho (MuLe.push _ _);have hrd':=Rd.le (MuLe.push st.mu (.arr (cNd ts.preds[k].body))) hrd;have htm:=kg (mkCk ts k) (Zo h (by omega)) _ ts.preds[k].body (qs _) (hs _ (qw hkp));have hts:tmsL ts (k+1)=tmsL ts k++[yn (mkCk ts k) ts.preds[k].body]:=by
    simp only[tmsL,qv hkp];rfl
   have hl:=Qi ts k (by omega);rw[hm]at ho' hrd';simp[go_sem,e1,e2,e5,hm,hlt,hkp,qm];refine qg.intro (by kernel_rfl) ?_;simp[go_sem,e1,e2,e5,hm,hlt,hkp,qbY];refine qe.lend htm ⟨by simpa using hrd',.hf _ (qH _),trivial⟩ (FL.sc _) ?_;simp[go_sem,e1,e2,e5,hm,hlt,hkp];refine qF.ownF (lo:=1) (e:=4) (sz:=1) (bt:=1) (zv:=aB false) (xs:=(tmsL ts k).map rB) (ys:=[rB (yn (mkCk ts k) ts.preds[k].body)]) (by simp[go_sem]) (by simp[go_sem]) (by simp[go_sem]) rfl rfl (by omega) (by omega) (by simpa using ho') (by simp[qI]) (uZ _) (uZ [_]) (by simp;omega) ?_;intro av' mu' ho2 hk2;obtain⟨rest',rfl⟩:=qb4 (hk2 0 (by omega));have w1:ql.wrap ((k:Int)+1)=(k:Int)+1:=qi (by omega) (by omega);simp[go_sem,e1,e2,e5,hm,hlt,hkp,w1,OwnF.cells ho2,OwnF.one ho2];refine Keep.mk' ?_;refine⟨av',rest',by simp[go_sem,e1],by simp[go_sem,e2],by simp[go_sem,e5],by simp[go_sem],?_⟩;have e3:(tmsL ts k).map rB++[rB (yn (mkCk ts k) ts.preds[k].body)]=(tmsL ts (k+1)).map rB:=by rw[hts,zt];rfl
   rw[<-e3];exact OwnF.low (low:=[.arr [lSo ts.sorts,lFl ts.fields,lPd ts.preds,lFa ts.facts,aI k,av]]) (low':=[.arr [lSo ts.sorts,lFl ts.fields,lPd ts.preds,lFa ts.facts,aI (k+1),av']]) ho2 rfl
  .obtain rfl:k=n:=by omega
   simp[go_sem,e1,e2,e5,hm];rw[hm]at hrd;exact hrd
theorem ofU'(full:Bool)(l:List Int)(hl:l.length<=3)(hr:∀ x,x∈l->0<=x/\x<128):qj qc 240 [.lst full (l.map rI)] (eKd (kOf l)):=by
 have:=ofU l hl hr;refine⟨this.1,fun imm w vs hi ra=>this.2 imm w vs hi ?_⟩;obtain⟨v,rfl,rv⟩:=ra.one_inv;exact⟨rfl,fun k x hk=>by
  cases k with
  |zero=>simp at hk;subst hk;simpa using rv.ro
  |succ k=>simp at hk⟩
theorem bindU(ns:Nat)(hns:ns<=4)(env:List (ByteArray×Int))(he:env.length<=1000000)(hr:∀ p,p∈env->0<=p.2/\p.2<ns):qj qc 211 [lPm env] (aSc (y7 env)):=by
 refine qSQ call211 func211 rfl {} ?_;simp[go_sem];refine qn.up env.length (fun k st=>st.tm 3=aSc (y7 (env.take k))/\st.tm 6=lPm env/\st.tm 7=aI env.length/\st.tm 8=aI k) ?_ ?_
 .simp [go_sem]
  rfl
 .rintro k st hk ⟨e3,e6,e7,e8⟩
  by_cases he':k=env.length
  .subst he'
   simp[go_sem,e3,e6,e7,e8];exact .hf _ (uR _)
  .have hlt:k<env.length:=by omega
   have hb:y7 (env.take (k+1))=(env[k].1,kOf [env[k].2]) :: y7 (env.take k):=by
    unfold y7;rw[List.take_add_one,qv hlt,wK];rfl
   have hof:=ofU' true [env[k].2] (by simp) (fun x hx=>by simp at hx;subst hx;have:=hr _ (qw hlt);omega);have w1:ql.wrap ((k:Int)+1)=(k:Int)+1:=qi (by omega) (by omega);simp[go_sem,e3,e6,e7,e8,hlt];refine qg.intro (by kernel_rfl) ?_;simp[go_sem,e3,e6,e7,e8,hlt];refine qe.pure hof (.cons (.hf (HF.lst fun r hr c hc=>by simp at hr;subst hr;simp at hc;subst hc;exact HF.sc _)) .nil) ?_;simp[go_sem,e3,e6,e7,e8,hlt,w1];rw[hb];rfl
theorem yb(a b:ByteArray):(a.toList == b.toList)=decide (a=b):=by
 by_cases h:a=b
 .subst h;simp
 .rw [jL h,decide_eq_false h]
theorem appK{mu:Mu}{s:AV}{xs:List Kd}{k:Kd}{K:AV->Mu->Prop}(ho:OwnF 0 mu 2 s (xs.map cKd))(hl:xs.length<=100000)(kk:∀ av mu',OwnF 0 mu' 2 av ((xs++[k]).map cKd)->K av mu') :
  qF qc mu #[256,256] s (.lst true [cKd k]) K:=by
 refine qF.ownF (lo:=0) (e:=251) (sz:=2) (bt:=16) (zv := .agg [aI 0,.sc (.map none)]) (xs:=xs.map cKd) (ys:=[cKd k]) (by simp[go_sem]) (by simp[go_sem]) (by simp[go_sem]) rfl rfl (by omega) (by omega) ho (by simp[qI]) (ww _) (ww [k]) (by simp;omega) ?_;intro av mu' h _;exact kk av mu' (by rw[zt];exact h)
theorem kS{mu:Mu}{s:AV}{xs:List Kd}{k:Kd}{K:AV->Mu->Prop}{b:Nat}{c:Cell}(ho:Own mu 2 s (xs.map cKd))(hb:mu[b]?=some c)(hs:∀ off len,s ≠ .sl b 2 off len)(hl:xs.length<=100000)
  (kk:∀ av mu',Own mu' 2 av ((xs++[k]).map cKd)->mu'[b]?=some c->(∀ off len,av ≠ .sl b 2 off len)->K av mu') :
  qF qc mu #[256,256] s (.lst true [cKd k]) K:=by
 have hbl:b<mu.length:=(qk.1 hb).1;have hfl:=jj (ww xs).ok;refine .inl ⟨_,_,251,2,16,[cKd k],rfl,by simp[go_sem],by simp[go_sem],⟨.agg [aI 0,.sc (.map none)],by simp[go_sem],rfl,rfl⟩,by omega,by omega,by simp[qI],ww [k],?_⟩;rcases ho with rfl|⟨b0,rfl,hc⟩
 .refine .inl ⟨xs.map cKd,rfl,ww xs,by simp;omega,fun h=>by simp at h,fun _=>?_⟩
  refine kk _ _ (.inr ⟨mu.length,by simp,by simp⟩) (by rw[qr hbl];exact hb) (fun off len e=>?_);injection e;omega
 .refine .inr ⟨b0,xs.length,_,by simp,hc,by simp at hfl⊢;omega,by simp;omega,?_⟩
  have hne:b0≠b:=fun e=>hs 0 _ (by rw[e])
  refine kk _ _ (.inr ⟨mu.length,by simp,?_⟩) (by rw[qr (by simpa using hbl),qK hne];exact hb) (fun off len e=>?_)
  .rw [q6 (by simp)]
   have:(List.map cKd xs).flatten.take (xs.length*2)=(List.map cKd xs).flatten:=zX (by simp at hfl⊢;omega);simp only[List.length_set,Nat.sub_self,List.getElem?_cons_zero,this,zt,List.flatten_append];rfl
  .injection e;omega
theorem jD{mu:Mu}{sz:Nat}{s:AV}{xs:List (List AV)}(h:Own mu sz s xs)(c:Cell):Own (mu++[c]) sz s xs:=by
 rcases h with rfl|⟨b,rfl,hc⟩
 .exact .inl rfl
 .exact .inr ⟨b,rfl,by rw[qr (qk.1 hc).1];exact hc⟩
theorem qdW{mu:Mu}{sz:Nat}{s:AV}{xs:List (List AV)}(h:Own mu sz s xs):∀ off len,s ≠ .sl mu.length sz off len:=by
 intro off len e;rcases h with rfl|⟨b,rfl,hc⟩
 .cases e
 .have:=(qk.1 hc).1
  injection e;omega
theorem qdX{fs:List Fld}{k:Nat}(hk:k<fs.length)(nm:ByteArray):yw (fs.take (k+1)) nm=yw (fs.take k) nm++(if fs[k].name=nm then [kOf fs[k].sorts] else []):=by
 unfold yw;rw[List.take_add_one,qv hk,List.filterMap_append];congr 1;simp only[Option.toList_some,List.filterMap_cons,List.filterMap_nil];split<;>rename_i h<;>split at h<;>simp_all
theorem kT(fs:List Fld)(nm:ByteArray):(yw fs nm).length<=fs.length:=List.length_filterMap_le ..
theorem kU:∀{so:List (ByteArray×Bool)} {i k:Nat} (hk:k<so.length) (nm:ByteArray),yx i (so.take (k+1)) nm=yx i (so.take k) nm++uj (i+k) so[k] nm
 | [],_,_,h,_=>by simp at h
 |s :: so,i,0,_,nm=>by simp[yx]
 |s :: so,i,k+1,h,nm=>by
  have:=kU (so:=so) (i:=i+1) (k:=k) (by simpa using h) nm;simp only[List.take_succ_cons,yx,List.getElem_cons_succ]at this⊢;rw[this,zx,show i+1+k=i+(k+1) by omega]
theorem qdY(i:Nat)(s:ByteArray×Bool)(nm:ByteArray):(uj i s nm).length<=3:=by
 unfold uj;simp only[zr];have h:∀(p:Prop) [Decidable p] (k:Kd),(if p then [k] else []).length<=1:=fun p _ k=>by split<;>simp
 have h1:=h (s.1=nm) (kOf [(i:Int)]);have h2:=h (s.2=true/\s.1++jc=nm) (kOf [(i:Int)]);have h3:=h (s.2=true/\s.1++vz=nm) (kOf [(i:Int),(i:Int)]);omega
theorem kV:∀(so:List (ByteArray×Bool)) (i:Nat) (nm:ByteArray),(yx i so nm).length<=3*so.length
 | [],_,_=>by simp[yx]
 |s :: so,i,nm=>by
  have:=kV so (i+1) nm;have:=qdY i s nm;simp only[yx,zr,zO];omega
theorem qdZ(ts:TS)(h:okTS ts)(nm:ByteArray):qj qc 212 [eTS ts,aS nm] (.lst false ((jM ts nm).map cKd)):=by
  refine qSQ call212 func212 rfl {} ?_;have hnf:=h.nf;have hns:=h.ns;simp[go_sem];refine qn.upK ts.fields.length (fun k st=>st.tm 1=aS nm/\st.tm 2 = .ip (cTS ts)/\st.tm 11=lFl ts.fields/\st.tm 12=aI ts.fields.length/\st.tm 13=aI k/\OwnF 0 st.mu 2 (st.tm 5) ((yw (ts.fields.take k) nm).map cKd)) ?_ ?_
  · exact⟨by simp[go_sem],by simp[go_sem],by simp[go_sem],by simp[go_sem],by simp[go_sem],by simp[go_sem];exact OwnF.nil (Nat.zero_le _)⟩
  · rintro k st hk ⟨e1,e2,e11,e12,e13,ho⟩
    by_cases he:k=ts.fields.length
    · subst he
      rw[zw]at ho;simp[go_sem,e1,e2,e11,e12,e13];have hl1:=kT ts.fields nm;refine qn.upK ts.sorts.length (fun k st=>st.tm 1=aS nm/\st.tm 29=lSo ts.sorts/\st.tm 30=aI ts.sorts.length/\st.tm 31=aI k/\Own st.mu 2 (st.tm 5) ((yw ts.fields nm++yx 0 (ts.sorts.take k) nm).map cKd)) ?_ ?_
      · exact⟨by simp[go_sem,e1],by simp[go_sem],by simp[go_sem],by simp[go_sem],by simp[go_sem,yx];simpa using ho.1⟩
      · rintro k st hk ⟨e1,e29,e30,e31,ho⟩
        by_cases he:k=ts.sorts.length
        · subst he
          rw[zw]at ho;simp[go_sem,e1,e29,e30,e31];exact ho.rd (ww _).ok (fun r hr c hc=>by
            obtain⟨x,_,rfl⟩:=qq.1 hr;simp at hc;rcases hc with rfl|rfl
            · exact HF.sc _
            · exact Ya _)
        · have hlt:k<ts.sorts.length:=by omega
          have w1:ql.wrap ((k:Int)+1)=(k:Int)+1:=qi (by omega) (by omega);have hl2:=kV (ts.sorts.take k) 0 nm;have hl3:(ts.sorts.take k).length<=4:=by simp;omega
          have hof1:=ofU' true [(k:Int)] (by simp) (fun x hx=>by simp at hx;subst hx;omega);have hof2:=ofU' true [(k:Int),(k:Int)] (by simp) (fun x hx=>by simp at hx;subst hx;omega);have hr1:HF (.lst true [rI k]):=HF.lst fun r hr c hc=>by simp at hr;subst hr;simp at hc;subst hc;exact HF.sc _
          have hr2:HF (.lst true [rI k,rI k]):=HF.lst fun r hr c hc=>by simp at hr;subst hr;simp at hc;subst hc;exact HF.sc _
          have htk:=kU (i:=0) hlt nm;rw[yE]at htk;have hsz:=h.sl _ (qw hlt);generalize hso:ts.sorts[k]=so at *
          obtain⟨sn,sb⟩:=so;have hll:(yw ts.fields nm++yx 0 (ts.sorts.take k) nm).length<=18:=by simp at hl2 hl3⊢;omega
          have hlx:∀ x:Kd,((yw ts.fields nm++yx 0 (ts.sorts.take k) nm)++[x]).length<=19:=fun x=>by simp at hll⊢;omega
          have hly:∀ x y:Kd,(((yw ts.fields nm++yx 0 (ts.sorts.take k) nm)++[x])++[y]).length<=20:=fun x y=>by simp at hll⊢;omega
          generalize hX:yw ts.fields nm++yx 0 (ts.sorts.take k) nm=X at *
          have hfin:∀(s:AV) (mu:Mu) (Y:List Kd),Y=X++uj k (sn,sb) nm->Own mu 2 s (Y.map cKd)->Own mu 2 s ((yw ts.fields nm++yx 0 (ts.sorts.take (k+1)) nm).map cKd):=by
            intro s mu Y hY h;rw[htk,<-zx,hX,<-hY];exact h
          have hsf:∀ b:ByteArray,sn++jc=b->(sn++jc).toList == b.toList:=fun b h=>by rw[h];simp
          have hmu:=fun c=>jD ho c
          have hnot:=qdW ho;have hfs:(sn++jc=nm)=(sn++(⟨#[95,102,105,114,115,116]⟩:ByteArray)=nm):=rfl;have hxs:(sn++vz=nm)=(sn++(⟨#[95,110,101,120,116]⟩:ByteArray)=nm):=rfl;simp only[uj,hfs,hxs]at hfin;have hs1:sn.size<=9223372036854775801:=by simp at hsz;omega
          have hs2:sn.size<=9223372036854775802:=by simp at hsz;omega
          simp only[zt]at hfin;obtain⟨d1,hd1⟩:∃ d,decide (sn=nm)=d:=⟨_,rfl⟩;obtain⟨d2,hd2⟩:∃ d,decide (sn++(⟨#[95,102,105,114,115,116]⟩:ByteArray)=nm)=d:=⟨_,rfl⟩;obtain⟨d3,hd3⟩:∃ d,decide (sn++(⟨#[95,110,101,120,116]⟩:ByteArray)=nm)=d:=⟨_,rfl⟩;have p1:(sn=nm)=(d1=true):=by rw[<-hd1];simp
          have p2:(sn++(⟨#[95,102,105,114,115,116]⟩:ByteArray)=nm)=(d2=true):=by rw[<-hd2];simp
          have p3:(sn++(⟨#[95,110,101,120,116]⟩:ByteArray)=nm)=(d3=true):=by rw[<-hd3];simp
          simp only[p1,p2,p3]at hfin;cases d1<;>cases d2<;>cases d3<;>cases sb
          all_goals simp only[if_true,if_false,zl,yZ,and_false,and_true,false_and,true_and,reduceCtorEq]at hfin
          all_goals simp[go_sem,yb,e1,e29,e30,e31,hlt,hso,hd1,hd2,hd3,w1,hs1,hs2]
          all_goals repeat' (first
            | (refine qe.pure hof1 (.cons (.hf hr1) .nil) ?_
               simp[go_sem];refine kS (b:=st.mu.length) (by first|exact hmu _|assumption) (by first|assumption|exact List.getElem?_concat_length) (by assumption) (by first | (simp only[zr,List.length_singleton];omega)|omega) ?_;rintro av mu' ho2 hb2 hn2;simp[go_sem,yb,e1,e29,e30,e31,hlt,hso,hd1,hd2,hd3,w1,hs1,hs2,hb2])
            | (refine qe.pure hof2 (.cons (.hf hr2) .nil) ?_
               simp[go_sem];refine kS (b:=st.mu.length) (by first|exact hmu _|assumption) (by first|assumption|exact List.getElem?_concat_length) (by assumption) (by first | (simp only[zr,List.length_singleton];omega)|omega) ?_;rintro av mu' ho2 hb2 hn2;simp[go_sem,yb,e1,e29,e30,e31,hlt,hso,hd1,hd2,hd3,w1,hs1,hs2,hb2]))
          all_goals
            refine Keep.mk' ?_;refine⟨by simp[go_sem,e1],by simp[go_sem,e29],by simp[go_sem,e30],by simp[go_sem],?_⟩;simp only[KE,qM];simp;refine hfin _ _ _ ?_ (by first|assumption|exact hmu _);simp
    · have hlt:k<ts.fields.length:=by omega
      have hfl:=h.fl _ (qw hlt);have w1:ql.wrap ((k:Int)+1)=(k:Int)+1:=qi (by omega) (by omega);have hof:=ofU' false ts.fields[k].sorts hfl.2.1 (fun x hx=>by have:=hfl.2.2 x hx;omega);have htk:=qdX hlt nm;have hl1:=kT (ts.fields.take k) nm;by_cases hn:ts.fields[k].name=nm
      · simp[go_sem,e1,e2,e11,e12,e13,hlt,hn]
        refine qe.pure hof (.cons (.hf (yh _)) .nil) ?_;simp[go_sem,e1,e2,e11,e12,e13,hlt,hn];refine appK (xs:=yw (ts.fields.take k) nm) (U6 ho (MuLe.push _ _)) (by simp at hl1⊢;omega) ?_;intro av mu' ho2;simp[go_sem,e1,e2,e11,e12,e13,hlt,w1];refine Keep.mk' ?_;refine⟨by simp[go_sem,e1],by simp[go_sem,e2],by simp[go_sem,e11],by simp[go_sem,e12],by simp[go_sem],?_⟩;rw[htk,if_pos hn];simpa[go_sem] using ho2
      · simp[go_sem,e1,e2,e11,e12,e13,hlt,hn,jL hn,w1]
        refine Keep.mk' ?_;refine⟨by simp[go_sem,e1],by simp[go_sem,e2],by simp[go_sem,e11],by simp[go_sem,e12],by simp[go_sem],?_⟩;rw[htk,if_neg hn,zl];simpa[go_sem] using U6 ho (MuLe.push _ _)
end Y10
namespace Y11
open Y1 Y2 Y3 P1 Y7 YS YF Y9 Y10
def cKo:Option Kd->List AV
 |some k=>cKd k
 |none=>[aI 0,.sc (.map none)]
@[go_sem] theorem cKo_some(k:Kd):cKo (some k)=cKd k:=rfl
@[go_sem] theorem cKo_none:cKo none=[aI 0,.sc (.map none)]:=rfl
theorem kW(k:Option Kd):∀ c,c∈cKo k->HF c:=by
 intro c hc;cases k with
 |none=>simp[cKo]at hc;rcases hc with rfl|rfl<;>exact HF.sc _
 |some k=>simp[cKo]at hc;rcases hc with rfl|rfl;exact HF.sc _;exact Ya _
theorem qd0(k:Option Kd):HF (.agg (cKo k)):=HF.agg (kW k)
theorem U7(k:Option Kd):(cKo k).length=2/\(cKo k).all AV.one=true:=by cases k<;>exact⟨rfl,rfl⟩
def endK:Res->AEnd
 | .ok k => .ret (.agg (cKo k))
 | .error e => .pan (jz e.1 e.2)
@[go_sem] theorem endK_ok(k:Option Kd):endK (.ok k) = .ret (.agg (cKo k)):=rfl
@[go_sem] theorem ql1(e:Dg):endK (.error e) = .pan (jz e.1 e.2):=rfl
theorem U8(c:Ck)(hc:okCk c)(s:Scp)(n:Nd):qL qc 237 [eCk c,aSc s,eNd n] (endK (yU c s n.name n.pos)):=by
 refine qT.of_sound ?_;refine qSW call237 func237 rfl {} ?_;simp[go_sem];refine qe.pure (findU s n.name) (.cons (.hf (uR s)) (.cons (.hf (HF.sc _)) .nil)) ?_;unfold yU;cases hf:yT n.name s with
 |cons v r =>
  simp[go_sem,aSc];exact .hf _ (zH v.2)
 |nil =>
  simp[go_sem,aSc];refine qg.intro (by kernel_rfl) ?_;simp[go_sem];refine qe.pure (qdZ c.ts hc.ts n.name) (.cons (.hf (zh c.ts)) (.cons (.hf (HF.sc _)) .nil)) ?_;have hn0:=zL;cases hm:jM c.ts n.name with
  |nil =>
   simp[go_sem];refine qe.pans (zL false 40 n) (.cons (.hf (HF.sc _)) (.cons (.hf (HF.sc _)) (.cons (.hf (qH n)) .nil))) ?_;simp[go_sem];exact .hf _ (yd _ _)
  |cons k ks =>
   simp[go_sem];refine qe.pure (zL true 40 n).toP (.cons (.hf (HF.sc _)) (.cons (.hf (HF.sc _)) (.cons (.hf (qH n)) .nil))) ?_;cases ks with
   |nil =>
    simp[go_sem];refine qe.pure (zL true 44 n).toP (.cons (.hf (HF.sc _)) (.cons (.hf (HF.sc _)) (.cons (.hf (qH n)) .nil))) ?_;simp[go_sem];exact .hf _ (zH k)
   |cons k2 ks =>
    simp[go_sem];refine qe.pans (zL false 44 n) (.cons (.hf (HF.sc _)) (.cons (.hf (HF.sc _)) (.cons (.hf (qH n)) .nil))) ?_;simp[go_sem];exact .hf _ (yd _ _)
theorem qd1(k ar:Nat)(har:1<=ar)(h3:ar<=3):kSum (zn k ar) (kOf (qW ar (k:Int)))=zn (k+1) ar:=by
 have hnd:∀ k,((qu k).map fun (i:Nat)=>pad (qW ar (i:Int))).Nodup:=by
  intro k;refine List.pairwise_map.2 ((List.pairwise_iff_getElem.2 fun i j hi hj hij=>?_));simp only[List.getElem_range];obtain⟨a,rfl⟩:∃ a,ar=a+1:=⟨ar-1,by omega⟩;intro e;simp[pad,List.replicate_succ]at e;omega
 have hu:∀ l:List Tp,l.Nodup->uni [] l=l:=by
  intro l hl;have:∀(b a:List Tp),(a++b).Nodup->uni a b=a++b:=by
   intro b;induction b with
   |nil=>intro a _;simp[uni]
   |cons x b ih =>
    intro a h;have hx:x ∉ a:=fun hm=>(jU.1 h).2.2 x hm x (by simp) rfl
    show uni (ins a x) b=_;rw[show ins a x=a++[x] by unfold ins;rw[if_neg hx],ih (a++[x]) (by simpa using h)];simp
  simpa using this l [] (by simpa using hl)
 unfold kSum zn kOf;simp only;rw[hu _ (hnd k)];have h1:=hnd (k+1);rw[List.range_succ,zt,List.map_singleton]at h1⊢;have hx:pad (qW ar (k:Int)) ∉ (qu k).map fun (i:Nat)=>pad (qW ar (i:Int)):=fun hm=>(jU.1 h1).2.2 _ hm _ (by simp) rfl
 congr 1;show ins _ _=_;unfold ins;rw[if_neg hx]
theorem U9(c:Ck)(hc:okCk c)(ar:Nat)(h1:1<=ar)(h3:ar<=3):qj qc 261 [eCk c,aI ar] (eKd (zn c.ts.sorts.length ar)):=by
 refine qSQ call261 func261 rfl {} ?_;have hns:=hc.ts.ns;simp[go_sem];refine qe.pure (KN ar) (.cons (.hf (HF.sc _)) .nil) ?_;simp[go_sem];refine qn.up c.ts.sorts.length (fun k st=>st.tm 1=aI ar/\st.tm 4 = .ptr 0 0/\st.tm 5 = .ptr 1 0/\st.tm 13=lSo c.ts.sorts/\st.tm 14=aI c.ts.sorts.length/\st.tm 15=aI k/\st.mu=[.arr [aI 0,.sc (.map none)],.arr (cKd (zn k ar))]) ?_ ?_
 .simp [go_sem,zn]
 .rintro k st hk ⟨e1,e4,e5,e13,e14,e15,hm⟩
  by_cases he:k=c.ts.sorts.length
  .subst he
   simp[go_sem,e1,e4,e5,e13,e14,e15,hm];exact .hf _ (zH _)
  .have hlt:k<c.ts.sorts.length:=by omega
   have w1:ql.wrap ((k:Int)+1)=(k:Int)+1:=qi (by omega) (by omega);have hr:=qcI k ar (by omega);have hof:=ofU' false (qW ar (k:Int)) (by simpa using h3) (fun x hx=>by rw[List.eq_of_mem_replicate hx];omega);have hsu:=sumU true (zn k ar) (kOf (qW ar (k:Int))) (fun t ht=>by
    have ht:t∈(qu k).map fun (i:Nat)=>pad (qW ar (i:Int)):=ht
    obtain⟨i,_,rfl⟩:=qq.1 ht;rfl) (fun t ht=>by
    have ht:t∈[pad (qW ar (k:Int))]:=ht;simp at ht;subst ht;rfl)
   rw[qd1 k ar h1 h3]at hsu;simp[go_sem,e1,e4,e5,e13,e14,e15,hm,hlt];refine qg.intro (by kernel_rfl) ?_;simp[go_sem,e1,e4,e5,e13,e14,e15,hm,hlt];refine qe.pure hr (.cons (WK.lst fun r hr c hc=>by simp at hr;subst hr;simp at hc;subst hc;exact HF.sc _) (.cons (.hf (HF.sc _)) .nil)) ?_;simp[go_sem];refine qe.pure hof (.cons (.hf (yh _)) .nil) ?_;simp[go_sem];refine qe.pure hsu (.cons (.hf (zH _)) (.cons (.hf (Yc _ [_])) .nil)) ?_;simp[go_sem,e1,e4,e5,e13,e14,e15,hm,hlt,w1]
end Y11
namespace Y12
open Y1 Y2 Y3 P1 YM Y5 Y6 Y7 Y8 Y9 Y11
def trF(t:Tp):Tp:=[t.getD 1 0,t.getD 0 0,0]
theorem kX{a:List Tp}{t:Tp}:t∈uni [] (a.map fun t=>[t.getD 1 0,t.getD 0 0,0])↔∃ x,x∈a/\trF x=t:=by
 rw[j7];simp[trF]
theorem qd2(ns:Nat)(h:ns<=4):ok2 (zn ns 2):=by
 have hnd:((qu ns).map fun (i:Nat)=>pad (qW 2 (i:Int))).Nodup:=by
  refine List.pairwise_map.2 (List.pairwise_iff_getElem.2 fun i j hi hj hij=>?_);simp only[List.getElem_range];intro e;simp[pad,List.replicate_succ]at e;omega
 refine⟨rfl,hnd,fun t ht=>?_⟩;have ht:t∈(qu ns).map fun (i:Nat)=>pad (qW 2 (i:Int)):=ht
 obtain⟨i,hi,rfl⟩:=qq.1 ht;rw[zS]at hi;exact⟨i,i,rfl,by omega,by omega,by omega,by omega⟩
theorem qd3{a:Kd}(h:ok2 a):ok2 (kClo a):=by
 have:∀(f n:Nat) (a:Kd),ok2 a->ok2 (cloN f n a):=by
  intro f;induction f with
  |zero=>intro n a h;exact h
  |succ f ih =>
   intro n a h;unfold cloN;split
   .exact ih _ _ (h.sum h.join)
   .exact h
 exact this 70 0 a h
theorem qd4(c:Ck)(hc:okCk c)(op:Int)(a:Kd)(ha:ok2 a)(hop:op=11\/op=12\/op=13):qj qc 265 [eCk c,aI op,eKd a] (eKd (binK c.ts.sorts.length op a)):=by
 refine qSQ call265 func265 rfl {} ?_;have hns:=hc.ts.ns;unfold binK;rcases hop with rfl|rfl|rfl
 .simp [go_sem]
  refine qe.eff0 (Yb _ _) ?_ (by rintro r m ⟨e,_⟩;cases e);rintro r m ⟨e,c,rfl⟩;cases e;simp[go_sem];refine qn.seen a.ts.length (fun seen st=>st.tm 5 = .ip (cKd a)/\st.tm 6 = .ptr 0 0/\st.tm 7 = .ptr 3 0/\st.tm 25 = .ptr 4 0 /\
   ColS 2 (.arr [aI 0,.sc (.map none)]) c (.it (eT a.ts) seen) (fun t=>∃ x,(∃ i,i∈seen/\a.ts[i]?=some x)/\trF x=t) st.mu) ?_ ?_
  .exact ⟨by simp[go_sem],by simp[go_sem],by simp[go_sem],by simp[go_sem],[],rfl,rfl,rfl,rfl,rfl,by simp,by simp,by simp⟩
  .rintro seen st hnd hlt ⟨e5,e6,e7,e25,l,k0,k1,k2,k3,k4,h1,h2,h3⟩
   simp[go_sem,e5,e6,e7,e25];refine⟨4,eT a.ts,seen,rfl,k4,fun i e hi hns=>?_,fun hall=>?_⟩
   .obtain ⟨x,hx,rfl⟩:=Qe hi
    have hxo:okT x:=ha.okK.len x (qS hx);have hil:i<a.ts.length:=(qk.1 hx).1;have hx3:x.length=3:=hxo;have hlen:4<st.mu.length:=(qk.1 k4).1;have hget:∀(c:Cell) (l:List Cell) (j:Nat),j<4->((st.mu.set 4 c)++l)[j]?=st.mu[j]?:=fun c l j hj=>by
     rw[qr (by simp;omega),qK (by omega)]
    have q2:=fun c l=>(hget c l 2 (by omega)).trans k2
    have q3:=fun c l=>(hget c l 3 (by omega)).trans k3
    obtain⟨x0,x1,x2,rfl⟩:∃ x0 x1 x2,x=[x0,x1,x2]:=by
     match x,hx3 with
     | [x0,x1,x2],_=>exact⟨_,_,_,rfl⟩
    simp[go_sem,e5,e6,e7,e25,k4,hi,hlen,hns,q3];refine OptK.intro _ (updT (t:=[x1,x0,0]) (q2 _ _) rfl h2) ?_;simp[go_sem];refine⟨i,hil,hns,by simp[go_sem,e5],by simp[go_sem,e6],by simp[go_sem,e7],by simp[go_sem,e25],ins l [x1,x0,0],?_,?_,?_,?_,?_,Zi h1,fun t ht=>?_,fun t=>?_⟩
    .simp only[qM]
     rw[qK (by omega),hget _ _ 0 (by omega),k0]
    .simp only[qM]
     rw[qK (by omega),hget _ _ 1 (by omega),k1]
    .simp only[qM]
     rw[za (by simp;omega)]
    .simp only[qM]
     rw[qK (by omega),hget _ _ 3 (by omega),k3]
    .simp only[qM]
     rw[qK (by omega),qr (by simpa using hlen),za hlen]
    .rcases vP.1 ht with h|rfl
     .exact h2 t h
     .rfl
    .simp only[vP,h3,UI hx]
     constructor
     .rintro (⟨y,h,e⟩|rfl)
      .exact ⟨y,.inl h,e⟩
      .exact ⟨[x0,x1,x2],.inr rfl,rfl⟩
     .rintro ⟨y,h|rfl,e⟩
      .exact .inl ⟨y,h,e⟩
      .exact .inr e.symm
   .obtain ⟨rest,hm⟩:=four k0 k1 k2 k3
    simp[go_sem,e5,e6,e7,e25,hm];refine Rd.aggs ⟨.hf _ (HF.sc _),Rd.setT (k:=(kTr a).ts) rfl h1 (ui (by simp)) (fun t=>?_),trivial⟩;refine(h3 t).trans (Iff.trans ?_ kX.symm);constructor
    .rintro ⟨y,h,e⟩;exact⟨y,(UJ (by simpa using hall)).1 h,e⟩
    .rintro ⟨y,h,e⟩;exact⟨y,(UJ (by simpa using hall)).2 h,e⟩
 .simp [go_sem]
  refine qe.pure (JL a ha) (.cons (.hf (zH _)) .nil) ?_;simp[go_sem];exact .hf _ (zH _)
 .simp [go_sem]
  refine qe.pure (JL a ha) (.cons (.hf (zH _)) .nil) ?_;simp[go_sem];refine qe.pure (U9 c hc 2 (by omega) (by omega)) (.cons (.hf (yV _)) (.cons (.hf (HF.sc _)) .nil)) ?_;simp[go_sem];refine qe.pure (sumU true (kClo a) (zn c.ts.sorts.length 2) (qd3 ha).okK.len (qd2 _ hns).okK.len) (.cons (.hf (zH _)) (.cons (.hf (Yc _ [_])) .nil)) ?_;simp[go_sem];exact .hf _ (zH _)
theorem hfK2(n:Int)(ts:List Tp):HF (.agg [aI n,mKd ts]):=zH ⟨n,ts⟩
theorem hfKn:HF (.agg [aI 0,.sc (.map none)]):=qd0 none
theorem wkR(n:Nd)(b:Bool)(e:Int):WKs [aB b,aI e,eNd n] [aB b,aI e,eNd n] := .cons (.hf (HF.sc _)) (.cons (.hf (HF.sc _)) (.cons (.hf (qH n)) .nil))
structure ApOk (op:Int) (l:List (Option Kd)):Prop where
 one:op=5->∃ a,l=[a]
 bin:op=11\/op=12\/op=13->∃ a,l=[some a]/\okK a/\(a.ar=2->ok2 a)
 two:op=6\/op=14\/op=7\/op=8\/op=32\/op=33\/op=9\/op=10->∃ a b,l=[some a,some b]/\okK a/\okK b
theorem Wa{ns:Nat}{op n pos:Int}{l:List (Option Kd)}(h2:op≠2)(h3:op≠3)(h4:op≠4)(h5:op≠5)(b1:op≠11)(b2:op≠12)(b3:op≠13)(t1:op≠6)(t2:op≠14)(t3:op≠7)(t4:op≠8)(t5:op≠32)(t6:op≠33)(h9:op≠9)(h10:op≠10):yi ns op n pos l = .ok none:=by
 unfold yi;rw[if_neg h2,if_neg h3,if_neg h4];split
 .simp only[h5,b1,b2,b3,or_self,if_false]
  split<;>rfl
 .simp only[t1,t2,t3,t4,t5,t6,h9,h10,or_self,if_false]
 .rfl
theorem qd5(c:Ck)(hc:okCk c)(full:Bool)(n:Nd)(l:List (Option Kd))(hl:ApOk n.op l):qL qc 239 [eCk c,eNd n,.lst full (l.map cKo)] (endK (yi c.ts.sorts.length n.op n.n n.pos l)):=by
 refine qT.of_sound ?_;refine qSW call239 func239 rfl {} ?_;by_cases ho:n.op=2\/n.op=3\/n.op=4\/n.op=5\/n.op=11\/n.op=12\/n.op=13\/n.op=6\/n.op=14\/n.op=7\/n.op=8\/n.op=32\/n.op=33\/n.op=9\/n.op=10
 case neg =>
  simp only[not_or]at ho;obtain⟨h2,h3,h4,h5,b1,b2,b3,t1,t2,t3,t4,t5,t6,h9,h10⟩:=ho;rw[Wa h2 h3 h4 h5 b1 b2 b3 t1 t2 t3 t4 t5 t6 h9 h10];simp[go_sem,h2,h3,h4,h5,b1,b2,b3,t1,t2,t3,t4,t5,t6,h9,h10];exact .hf _ hfKn
 unfold yi;by_cases h2:n.op=2
 .simp [go_sem,h2]
  refine qe.pure (KN n.n) (.cons (.hf (HF.sc _)) .nil) ?_;simp[go_sem];exact .hf _ (hfK2 _ _)
 by_cases h3:n.op=3
 .simp [go_sem,h3]
  refine qe.pure (U9 c hc 1 (by omega) (by omega)) (.cons (.hf (yV _)) (.cons (.hf (HF.sc _)) .nil)) ?_;simp[go_sem];exact .hf _ (zH _)
 by_cases h4:n.op=4
 .simp [go_sem,h4]
  refine qe.pure (U9 c hc 2 (by omega) (by omega)) (.cons (.hf (yV _)) (.cons (.hf (HF.sc _)) .nil)) ?_;simp[go_sem];exact .hf _ (zH _)
 by_cases h5:n.op=5
 .obtain ⟨a,rfl⟩:=hl.one h5
  cases a with
  |none=>simp[go_sem,h5];exact .hf _ hfKn
  |some a=>simp[go_sem,h5];exact .hf _ (hfK2 _ _)
 by_cases hb:n.op=11\/n.op=12\/n.op=13
 .obtain ⟨a,rfl,ha,ha2⟩:=hl.bin hb
  have hbi:=fun h=>qd4 c hc n.op a (ha2 h) hb
  by_cases h2':a.ar=2
  .have hbi:=hbi h2'
   rcases hb with h|h|h<;>rw[h]at hbi
   all_goals
    simp[go_sem,h,h2'];refine qg.intro (by kernel_rfl) ?_;simp[go_sem,h,h2'];refine qe.pure (zL true 42 n).toP (wkR n true 42) ?_;simp[go_sem];refine qg.intro (by kernel_rfl) ?_;simp[go_sem,h];refine qe.pure hbi (.cons (.hf (yV _)) (.cons (.hf (HF.sc _)) (.cons (.hf (zH _)) .nil))) ?_;simp[go_sem];exact .hf _ (zH _)
  .rcases hb with h|h|h
   all_goals
    simp[go_sem,h,h2'];refine qg.tail 6 (by kernel_rfl) ?_;simp[go_sem,h,h2'];refine qe.pans (zL false 42 n) (wkR n false 42) ?_;simp[go_sem];exact .hf _ (yd _ _)
 by_cases ht:n.op=6\/n.op=14\/n.op=7\/n.op=8\/n.op=32\/n.op=33
 .obtain ⟨a,b,rfl,ha,hb'⟩:=hl.two (by omega)
  have hal:=qcB n.op a b ha hb';simp only[not_or]at hb;by_cases h2':a.ar=b.ar
  .rcases ht with h|h|h|h|h|h<;>rw[h]at hal
   all_goals
    simp[go_sem,h,h2'];refine qg.intro (by kernel_rfl) ?_;simp[go_sem,h,h2'];refine qe.pure (zL true 42 n).toP (wkR n true 42) ?_;simp[go_sem];refine qg.intro (by kernel_rfl) ?_;simp[go_sem,h];refine qe.pure hal (.cons (.hf (HF.sc _)) (.cons (.hf (zH _)) (.cons (.hf (zH _)) .nil))) ?_;simp[go_sem];exact .hf _ (zH _)
  .rcases ht with h|h|h|h|h|h
   all_goals
    simp[go_sem,h,h2'];refine qg.tail 10 (by kernel_rfl) ?_;simp[go_sem,h,h2'];refine qe.pans (zL false 42 n) (wkR n false 42) ?_;simp[go_sem];exact .hf _ (yd _ _)
 simp only[not_or]at hb ht;by_cases h9:n.op=9
 .obtain ⟨a,b,rfl,ha,hb'⟩:=hl.two (by omega)
  have hj:=ul a b ha hb';have w1:ql.wrap (a.ar+b.ar)=a.ar+b.ar:=qi (by have:=ha.ar;have:=hb'.ar;omega) (by have:=ha.ar;have:=hb'.ar;omega);have w2:ql.wrap (a.ar+b.ar-2)=a.ar+b.ar-2:=qi (by have:=ha.ar;have:=hb'.ar;omega) (by have:=ha.ar;have:=hb'.ar;omega);simp[go_sem,h9];refine qg.intro (by kernel_rfl) ?_;by_cases hk1:1<=a.ar+b.ar-2
  .by_cases hk2:a.ar+b.ar-2<=3
   .simp [go_sem,h9,w1,w2,hk1,hk2]
    refine qe.pure (zL true 42 n).toP (wkR n true 42) ?_;simp[go_sem];refine qg.intro (by kernel_rfl) ?_;simp[go_sem,h9];refine qe.pure hj (.cons (.hf (zH _)) (.cons (.hf (zH _)) .nil)) ?_;simp[go_sem];exact .hf _ (zH _)
   .simp [go_sem,h9,w1,w2,hk1,hk2]
    refine qe.pans (zL false 42 n) (wkR n false 42) ?_;simp[go_sem];exact .hf _ (yd _ _)
  .simp [go_sem,h9,w1,w2,hk1]
   refine qe.pans (zL false 42 n) (wkR n false 42) ?_;simp[go_sem];exact .hf _ (yd _ _)
 by_cases h10:n.op=10
 .obtain ⟨a,b,rfl,ha,hb'⟩:=hl.two (by omega)
  have w1:ql.wrap (a.ar+b.ar)=a.ar+b.ar:=qi (by have:=ha.ar;have:=hb'.ar;omega) (by have:=ha.ar;have:=hb'.ar;omega);by_cases hk2:a.ar+b.ar<=3
  .have hj:=UH a b ha hb' hk2
   simp[go_sem,h10];refine qg.intro (by kernel_rfl) ?_;simp[go_sem,h10,w1,hk2];refine qe.pure (zL true 42 n).toP (wkR n true 42) ?_;simp[go_sem];refine qg.intro (by kernel_rfl) ?_;simp[go_sem,h10];refine qe.pure hj (.cons (.hf (zH _)) (.cons (.hf (zH _)) .nil)) ?_;simp[go_sem];exact .hf _ (zH _)
  .simp [go_sem,h10]
   refine qg.tail 11 (by kernel_rfl) ?_;simp[go_sem,h10,w1,hk2];refine qe.pans (zL false 42 n) (wkR n false 42) ?_;simp[go_sem];exact .hf _ (yd _ _)
 exact absurd ho (by omega)
end Y12
end Go.Proofs.YtkglmpmlfjogkaaGreatDoor
