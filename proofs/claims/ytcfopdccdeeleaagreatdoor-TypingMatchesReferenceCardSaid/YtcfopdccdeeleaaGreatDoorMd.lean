/-
  Own library, part 4: an abstract reading of values and a calculus over it; contracts of functions; plain lemmas.
-/
import Derived.Shelf.SlSortCmp.NoneTotal
import Derived.Test.YtcfopdccdeeleaaGreatDoorMc
set_option linter.unusedVariables false
set_option linter.unusedSimpArgs false
set_option maxRecDepth 100000


open List renaming getElem?_eq_some_iff→qv,getElem?_append_left→qz,mem_map→qE,getElem_mem→qJ,mem_cons→qK,getElem?_set_ne→qL,getElem?_eq_getElem→qX,not_mem_nil→zb,getElem?_set_self→zd,mem_of_getElem?→ze,mem_append→zh,mem_singleton→zj,getElem?_append_right→zl,length_append→zr,mem_cons_of_mem→zt,drop_eq_getElem_cons→zA,mem_cons_self→zG,getElem?_map→zM,append_assoc→zW,append_nil→ye,getElem?_eq_none→yx,take_of_length_le→y5,length_map→jn,getElem?_take→jo,take_length→jC,flatMap_cons→u9,getElem?_cons_zero→Qo,pairwise_cons→ZW,mem_flatMap→Jm,getElem_map→VJ
open Nat renaming le_refl→qB,le_trans→yZ,lt_of_lt_of_le→u7,zero_le→wH
open Array renaming getD_eq_getD_getElem?→za
namespace Go.Proofs.YtcfopdccdeeleaaGreatDoor.YS
open Go Go.Ev Go.Proofs Y1 Y2 Y3 Y4 P1 YM Y5 Y6 Y7 Y8
theorem qcF (xs:List Int):(xs.map rI).flatten=xs.map aI:=by
 induction xs with
 |nil=>rfl
 |cons x xs ih=>simp [ih]
theorem qcG {lo b n:Nat} {mu:Mu} {xs:List Int} (hb:lo≤b) (hc:mu[b]?=some (.arr (xs.map aI))) (hn:xs.length=n):OwnF lo mu 1 (.sl b 1 0 n) (xs.map rI):=by
 have hl:b<mu.length:=(qv.1 hc).1;refine ⟨.inr ⟨b,by simp [hn],by rw [hc,qcF]⟩,fun b' s o l e=>?_,by omega⟩;injection e;omega
theorem gPow : Tryz.prog.globalNamed "internal/strconv.uint64pow10" = some 0 := by kernel_rfl
theorem tabIs {G : Gh} {mu : Mu} {w : World} (s : Sim G mu w.heap) : Lib.TabIs Tryz.prog w "internal/strconv.uint64pow10" .u64 Lib.pow10Tab := by
  obtain ⟨_,e,fr,h⟩:=s.tab (0,[.int .u64 1,.int .u64 10,.int .u64 100,.int .u64 1000,.int .u64 10000,.int .u64 100000,.int .u64 1000000,.int .u64 10000000,.int .u64 100000000,.int .u64 1000000000,.int .u64 10000000000,.int .u64 100000000000,.int .u64 1000000000000,.int .u64 10000000000000,.int .u64 100000000000000,.int .u64 1000000000000000,.int .u64 10000000000000000,.int .u64 100000000000000000,.int .u64 1000000000000000000,.int .u64 10000000000000000000]) (by simp [tabs]);unfold Lib.TabIs World.var?;rw [gPow];simp only [Option.bind_some,h];rfl
def jr (n:Int):ByteArray:=⟨(Lib.itoa n).toArray⟩
theorem itoaU (n:Int) (h0 : -9223372036854775808≤n) (h1:n≤9223372036854775807):qt Tryz.prog 175 [aI n] (aS (jr n)):=by
 refine ⟨Tryz.call175,fun imm w vs hi ra=>?_⟩;obtain ⟨v,rfl,rv⟩:=ra.one_inv;cases rv;refine (Tryz.strconv_Itoa n h0 h1 w (tabIs hi)).mono fun e w' ⟨he,k,os,hw⟩=>?_
 subst hw;have st1:Stp ⟨imm,[]⟩ [] w ⟨imm,[]⟩ [] (w.drewN k):=⟨.refl _,hi,fun _ _ _=>rfl,qB _,fun _ h => .inl h,fun _ h => .inl h,rfl,rfl,rfl,Nat.le_add_right _ _⟩;have st:=st1.trans hi (Stp.grow st1.sim os);exact ⟨imm,_,he,fun _ h=>h,fun b hb=>⟨st.sim.imm b hb,.inl hb⟩,⟨⟨st.os,st.tape,st.output,st.size,fun b hb=>st.keep b hb (fun ⟨i,c,t,hc,_⟩=>by simp at hc)⟩,st.drawn⟩,.sc _ rfl⟩
theorem mulB (x y:Nat) (hx:x<18446744073709551616) (hy:y<18446744073709551616) :
  qt Tryz.prog 176 [.sc (.int .u64 x),.sc (.int .u64 y)] (.tup [.sc (.int .u64 ((x*y / 18446744073709551616:Nat):Int)),.sc (.int .u64 ((x*y % 18446744073709551616:Nat):Int))]):=
 qt.of_still Tryz.call176 (fun G h us r=>qcE r) (fun w=>Tryz.bits_Mul x y hx hy w) fun G h => .tup _ _ rfl fun k z hk=>by
  match k with
  | 0=>simp at hk;subst hk;exact .sc _ rfl
  | 1=>simp at hk;subst hk;exact .sc _ rfl
  |k+2=>simp at hk
theorem K4 {n:Int} (h0:0≤n) (h1:n≤18446744073709551615):IntKind.u64.wrap n=n:=IntWalk.u64_in n ⟨h0,h1⟩
theorem qcH {mu:Mu} {b off len:Nat} {cells:List AV} (hc:mu[b]?=some (.arr cells)) (hl:off+len≤cells.length):zf mu (.sl b 1 off len)=some (((cells.drop off).take len).map fun c=>[c]):=by
 simp only [zf,hc];rw [if_pos (by omega)];congr 1;apply List.ext_getElem?;intro i;by_cases hi:i<len
 ·simp only [zM,List.getElem?_range hi,Option.map_some,Nat.mul_one]
  rw [jo,if_pos hi,List.getElem?_drop,qX (show off+i<cells.length by omega)];rw [zA (show off+i<cells.length by omega)];rfl
 ·rw [yx (by simp;omega),yx (by simp;omega)]
theorem qcI (l:List AV):(l.map fun c=>[c]).flatten=l:=by
 induction l with
 |nil=>rfl
 |cons x l ih=>simp only [List.map_cons,List.flatten_cons,ih];rfl
theorem qcJ {l:List AV} (h:∀ c,c∈l→c.one=true):zC 1 (l.map fun c=>[c]):=fun r hr=>by
 obtain ⟨c,hc,rfl⟩:=qE.1 hr;exact ⟨rfl,by simp [h c hc]⟩
def rep (s:Int) (k m:Nat):List AV:=List.replicate m (aI s)++List.replicate (k-m) (aI 0)
theorem U4 (s:Int) (k m:Nat) (h:m≤k):(rep s k m).length=k:=by simp [rep];omega
theorem K5 (s:Int) (k m j:Nat) (h:j≤m):(rep s k m).take j=List.replicate j (aI s):=by
 rw [rep,List.take_append_of_le_length (by simpa using h),List.take_replicate,Nat.min_eq_left h]
theorem K6 (s:Int) (k m j:Nat) (hm:m≤k) (h:m+j≤k):putCells (rep s k m) m (List.replicate j (aI s))=rep s k (m+j):=by
 rw [j5 _ _ _ (by rw [U4 _ _ _ hm];simpa using h)];rw [K5 _ _ _ _ (qB m),List.replicate_append_replicate];have:List.drop (m+(List.replicate j (aI s)).length) (rep s k m)=List.replicate (k-(m+j)) (aI 0):=by
  rw [rep,List.length_replicate,List.drop_append,List.drop_of_length_le (by simp),List.nil_append,List.length_replicate,List.drop_replicate];congr 1;omega
 rw [this];rfl
theorem qcK (s:Int) (k:Nat) (hk:k≤5):qt Tryz.prog 164 [lI [s],aI k] (lI (List.replicate k s)):=by
 refine qSQ Tryz.call164 Tryz.func164 rfl {} ?_;have w1:IntKind.u64.wrap (k:Int)=k:=K4 (by omega) (by omega);have w2:IntKind.u64.wrap 1=1:=K4 (by omega) (by omega);have w3:IntKind.i64.wrap (k:Int)=k:=qy (by omega) (by omega);simp [go_sem,show ¬(k:Int)<0 by omega,w1,w2];refine qc.pure (mulB 1 k (by omega) (by omega)) (.cons (.hf (HF.sc _)) (.cons (.hf (HF.sc _)) .nil)) ?_;rw [show 1*k / 18446744073709551616=0 by omega,show 1*k % 18446744073709551616=k by omega];simp [go_sem,show ¬(9223372036854775807:Int)<k by omega,w3,show (k:Int)≤4294967296 by omega];refine UK (ys:=[[aI s]]) (by simp [go_sem]) rfl (by simp) rfl (Yi [s]) ?_;have e0:putCells (List.replicate k (aI 0)) 0 (([[aI s]]:List (List AV)).take k).flatten=rep s k (min 1 k):=by
  have:=K6 s k 0 (min 1 k) (by omega) (by omega);rw [Nat.zero_add] at this;rw [←this];cases k with
  |zero=>rfl
  |succ k=>rw [show min 1 (k+1)=1 by omega];simp [rep]
 simp only [e0];simp [go_sem];refine qD.keep (fun n st=>∃ m,n=k-m∧m≤k∧(k=m∨1≤m)∧st.tm 7 = .sl 0 1 0 k∧st.tm 8=aI m∧st.mu=[.arr (rep s k m)]) (k-min 1 k) ?_ ?_
 ·exact ⟨min 1 k,rfl,by omega,by omega,by simp [go_sem],by simp [go_sem],by simp [go_sem]⟩
 rintro n st ⟨m,rfl,hm,hm1,e7,e8,em⟩;by_cases hlt:m<k
 ·have hc:zf [.arr (rep s k m)] (.sl 0 1 0 m)=some ((List.replicate m (aI s)).map fun c=>[c]):=by
   rw [qcH (cells:=rep s k m) rfl (by rw [U4 _ _ _ hm];omega)];rw [List.drop_zero,K5 _ _ _ _ (qB m)]
  simp [go_sem,e7,e8,em,hlt,show m≤k by omega];refine qx.intro (by kernel_rfl) ?_;simp [go_sem,e7,e8,em,hlt,show m≤k by omega];refine UK (cells:=rep s k m) (by simp [go_sem]) rfl (by rw [U4 _ _ _ hm];omega) hc (qcJ fun c hc=>by rw [List.eq_of_mem_replicate hc];rfl) ?_;have e1:putCells (rep s k m) m ((((List.replicate m (aI s)).map fun c=>[c]).take (k-m)).flatten)=rep s k (m+min m (k-m)):=by
   rw [←List.map_take,qcI,List.take_replicate,Nat.min_comm];exact K6 s k m _ hm (by omega)
  simp only [e1];simp [go_sem,e7,e8,em];refine Keep.loop (k-(m+min m (k-m))) (by omega) ⟨m+min m (k-m),rfl,by omega,by omega,by simp [go_sem,e7],?_,by simp [go_sem]⟩;simp [go_sem];rw [qy (by omega) (by omega)]
 ·obtain rfl:m=k:=by omega
  simp [go_sem,e7,e8,em];have:rep s m m=(List.replicate m s).map aI:=by simp [rep]
  rw [this];exact (qcG (lo:=0) (mu:=[.arr ((List.replicate m s).map aI)]) (b:=0) (wH _) rfl (by simp)).rdI
end Go.Proofs.YtcfopdccdeeleaaGreatDoor.YS


namespace Go.Proofs.YtcfopdccdeeleaaGreatDoor.YF
open Go Go.Ev Go.Proofs Y1 Y2 Y3 Y4 P1 YM Y5 Y6 Y7 Y8 YS
abbrev cPm (p:ByteArray×Int):List AV:=[aS p.1,aI p.2]
abbrev lPm (l:List (ByteArray×Int)):AV := .lst false (l.map cPm)
abbrev cPd (p:Pd):List AV:=aS p.name :: lPm p.params :: cNd p.body
abbrev lPd (l:List Pd):AV := .lst false (l.map cPd)
abbrev cFa (f:ByteArray×Nd):List AV:=aS f.1 :: cNd f.2
abbrev lSo (l:List (ByteArray×Bool)):AV := .lst false (l.map yh)
abbrev lFl (l:List Fld):AV := .lst false (l.map yi)
abbrev lFa (l:List (ByteArray×Nd)):AV := .lst false (l.map cFa)
abbrev cTS (s:TS):List AV:=[lSo s.sorts,lFl s.fields,lPd s.preds,lFa s.facts]
abbrev eTS (s:TS):AV := .agg (cTS s)
theorem wu (p:ByteArray×Int):∀ c,c∈cPm p→HF c:=by
 intro c hc;simp at hc;rcases hc with rfl | rfl<;>exact HF.sc _
theorem jJ (l:List (ByteArray×Int)):HF (lPm l):=HF.lst fun r hr c hc=>by
 obtain ⟨p,_,rfl⟩:=qE.1 hr;exact wu p c hc
theorem uy (p:Pd):∀ c,c∈cPd p→HF c:=by
 intro c hc;simp only [cPd,qK] at hc;rcases hc with rfl | rfl | hc
 ·exact HF.sc _
 ·exact jJ _
 ·exact jb p.body c hc
theorem ua (l:List Pd):HF (lPd l):=HF.lst fun r hr c hc=>by
 obtain ⟨p,_,rfl⟩:=qE.1 hr;exact uy p c hc
theorem wY (p:ByteArray×Nd):∀ c,c∈cFa p→HF c:=by
 intro c hc;simp only [cFa,qK] at hc;rcases hc with rfl | hc
 ·exact HF.sc _
 ·exact jb p.2 c hc
theorem Zn (l:List (ByteArray×Nd)):HF (lFa l):=HF.lst fun r hr c hc=>by
 obtain ⟨p,_,rfl⟩:=qE.1 hr;exact wY p c hc
theorem wZ (p:ByteArray×Bool):∀ c,c∈yh p→HF c:=by
 intro c hc;simp at hc;rcases hc with rfl | rfl<;>exact HF.sc _
theorem w6 (l:List (ByteArray×Bool)):HF (lSo l):=HF.lst fun r hr c hc=>by
 obtain ⟨p,_,rfl⟩:=qE.1 hr;exact wZ p c hc
theorem w7 (l:List Fld):HF (lFl l):=HF.lst fun r hr c hc=>by
 obtain ⟨p,_,rfl⟩:=qE.1 hr;exact wR p c hc
theorem U5 (s:TS):∀ c,c∈cTS s→HF c:=by
 intro c hc;simp only [cTS,qK,zb,or_false] at hc;rcases hc with rfl | rfl | rfl | rfl
 ·exact w6 _
 ·exact w7 _
 ·exact ua _
 ·exact Zn _
theorem zq (s:TS):HF (eTS s):=HF.agg (U5 s)
theorem qcL (n:Nd):(cNd n).length=5∧(cNd n).all AV.one=true:=⟨Zi n,Yj n⟩
theorem jt (p:Pd):(cPd p).length=7∧(cPd p).all AV.one=true:=⟨by simp [cPd,Zi],by simp only [cPd,List.all_cons,Yj];rfl⟩
theorem Yp (p:ByteArray×Nd):(cFa p).length=6∧(cFa p).all AV.one=true:=⟨by simp [cFa,Zi],by simp only [cFa,List.all_cons,Yj];rfl⟩
theorem U7 (p:ByteArray×Bool):(yh p).length=2∧(yh p).all AV.one=true:=⟨rfl,rfl⟩
theorem U9 (p:Fld):(yi p).length=3∧(yi p).all AV.one=true:=⟨rfl,rfl⟩
theorem Wa (p:ByteArray×Int):(cPm p).length=2∧(cPm p).all AV.one=true:=⟨rfl,rfl⟩
def ju (P:Program) (fv:AV) {α:Type} (xs:List α) (enc:α→AV) (g:α→Bool):Prop:=
 ∃ f first caps,fv = .fn (.func f) first caps∧∀ x,x∈xs→∃ args',qt P f args' (aB (g x))∧WKs (first++[enc x]++caps) args'
def idxI {α:Type} (xs:List α) (g:α→Bool):Int:=match xs.findIdx? g with | some i=>i | none => -1
theorem Qa {α:Type} {xs:List α} {g:α→Bool} {k:Nat} (hk:k<xs.length) (hg:g xs[k]=true) (hb:∀(j:Nat) (h:j<xs.length),j<k→g xs[j]=false):idxI xs g=k:=by
 unfold idxI;have:xs.findIdx? g=some k:=by
  rw [List.findIdx?_eq_some_iff_getElem];exact ⟨hk,hg,fun j hj=>by rw [hb j (by omega) hj];simp⟩
 rw [this]
theorem Zo {α:Type} {xs:List α} {g:α→Bool} (hb:∀(j:Nat) (h:j<xs.length),g xs[j]=false):idxI xs g = -1:=by
 unfold idxI;have:xs.findIdx? g=none:=by
  rw [List.findIdx?_eq_none_iff];intro x hx;obtain ⟨j,hj,rfl⟩:=List.mem_iff_getElem.1 hx;exact hb j hj
 rw [this]
theorem Zp {α:Type} (xs:List α) (g:α→Bool):decide (0≤idxI xs g)=xs.any g:=by
 unfold idxI;cases h:xs.findIdx? g with
 |none =>
  rw [List.findIdx?_eq_none_iff] at h;have:xs.any g=false:=by
   rw [←Bool.not_eq_true,List.any_eq_true];rintro ⟨x,hx,hg⟩;rw [h x hx] at hg;exact absurd hg (by simp)
  rw [this];rfl
 |some i =>
  rw [List.findIdx?_eq_some_iff_getElem] at h;obtain ⟨hi,hg,_⟩:=h;have:xs.any g=true:=List.any_eq_true.2 ⟨_,qJ hi,hg⟩;rw [this];simp
theorem idxNd (full:Bool) (xs:List (Nd)) (fv:AV) (g:Nd→Bool) (hf:ju Tryz.prog fv xs (fun x => .agg (cNd x)) g) (hl:xs.length≤1000000000000):qt Tryz.prog 161 [.lst full (xs.map cNd),fv] (aI (idxI xs g)):=by
 refine qSQ Tryz.call161 Tryz.func161 rfl {} ?_;obtain ⟨f,first,caps,rfl,hf⟩:=hf;simp [go_sem];refine qD.up xs.length (fun k st=>st.tm 0 = .lst full (xs.map cNd)∧st.tm 1 = .fn (.func f) first caps∧st.tm 6 = .lst full (xs.map cNd)∧st.tm 7=aI xs.length∧st.tm 8=aI k∧st.mu=[]∧∀(j:Nat) (h:j<xs.length),j<k→g xs[j]=false) ?_ ?_
 ·simp [go_sem]
 ·rintro k st hk ⟨e0,e1,e6,e7,e8,hm,hb⟩
  by_cases he:k=xs.length
  ·subst he
   simp [go_sem,e0,e1,e6,e7,e8,hm];rw [Zo (fun j h=>hb j h h)];exact .hf _ (HF.sc _)
  ·have hlt:k<xs.length:=by omega
   obtain ⟨args',hs,hw⟩:=hf xs[k] (qJ hlt);have hw':=qy (n:=((k+1:Nat):Int)) (by omega) (by omega);simp [go_sem,e0,e1,e6,e7,e8,hm,hlt,qcL xs[k],qr];refine .inl ⟨_,.inl ⟨f,first,caps,args',rfl,hs,.inl hw⟩,?_⟩;cases hg:g xs[k] with
   |true =>
    simp [go_sem,e0,e1,e6,e7,e8,hm];rw [Qa hlt hg (fun j h hj=>hb j h hj)];exact .hf _ (HF.sc _)
   |false =>
    simp [go_sem,e0,e1,e6,e7,e8,hm,hlt];simp at hw';refine ⟨hw',fun j h hj=>?_⟩;by_cases hjk:j=k
    ·subst hjk;exact hg
    ·exact hb j h (by omega)
theorem hasNd (full:Bool) (xs:List (Nd)) (fv:AV) (g:Nd→Bool) (hf:ju Tryz.prog fv xs (fun x => .agg (cNd x)) g) (hh:HF fv) (hh2:HF (.lst full (xs.map cNd))) (hl:xs.length≤1000000000000):qt Tryz.prog 125 [.lst full (xs.map cNd),fv] (aB (xs.any g)):=by
 refine qSQ Tryz.call125 Tryz.func125 rfl {} ?_;simp [go_sem];refine qc.pure (idxNd full xs fv g hf hl) (.cons (.hf hh2) (.cons (.hf hh) .nil)) ?_;simp [go_sem];rw [Zp];exact .hf _ (HF.sc _)
theorem Wb (full:Bool) (xs:List (Pd)) (fv:AV) (g:Pd→Bool) (hf:ju Tryz.prog fv xs (fun x => .agg (cPd x)) g) (hl:xs.length≤1000000000000):qt Tryz.prog 114 [.lst full (xs.map cPd),fv] (aI (idxI xs g)):=by
 refine qSQ Tryz.call114 Tryz.func114 rfl {} ?_;obtain ⟨f,first,caps,rfl,hf⟩:=hf;simp [go_sem];refine qD.up xs.length (fun k st=>st.tm 0 = .lst full (xs.map cPd)∧st.tm 1 = .fn (.func f) first caps∧st.tm 6 = .lst full (xs.map cPd)∧st.tm 7=aI xs.length∧st.tm 8=aI k∧st.mu=[]∧∀(j:Nat) (h:j<xs.length),j<k→g xs[j]=false) ?_ ?_
 ·simp [go_sem]
 ·rintro k st hk ⟨e0,e1,e6,e7,e8,hm,hb⟩
  by_cases he:k=xs.length
  ·subst he
   simp [go_sem,e0,e1,e6,e7,e8,hm];rw [Zo (fun j h=>hb j h h)];exact .hf _ (HF.sc _)
  ·have hlt:k<xs.length:=by omega
   obtain ⟨args',hs,hw⟩:=hf xs[k] (qJ hlt);have hw':=qy (n:=((k+1:Nat):Int)) (by omega) (by omega);simp [go_sem,e0,e1,e6,e7,e8,hm,hlt,jt xs[k],qr];refine .inl ⟨_,.inl ⟨f,first,caps,args',rfl,hs,.inl hw⟩,?_⟩;cases hg:g xs[k] with
   |true =>
    simp [go_sem,e0,e1,e6,e7,e8,hm];rw [Qa hlt hg (fun j h hj=>hb j h hj)];exact .hf _ (HF.sc _)
   |false =>
    simp [go_sem,e0,e1,e6,e7,e8,hm,hlt];simp at hw';refine ⟨hw',fun j h hj=>?_⟩;by_cases hjk:j=k
    ·subst hjk;exact hg
    ·exact hb j h (by omega)
theorem K7 (full:Bool) (xs:List (Pd)) (fv:AV) (g:Pd→Bool) (hf:ju Tryz.prog fv xs (fun x => .agg (cPd x)) g) (hh:HF fv) (hh2:HF (.lst full (xs.map cPd))) (hl:xs.length≤1000000000000):qt Tryz.prog 104 [.lst full (xs.map cPd),fv] (aB (xs.any g)):=by
 refine qSQ Tryz.call104 Tryz.func104 rfl {} ?_;simp [go_sem];refine qc.pure (Wb full xs fv g hf hl) (.cons (.hf hh2) (.cons (.hf hh) .nil)) ?_;simp [go_sem];rw [Zp];exact .hf _ (HF.sc _)
theorem idxSo (full:Bool) (xs:List (ByteArray×Bool)) (fv:AV) (g:ByteArray×Bool→Bool) (hf:ju Tryz.prog fv xs (fun x => .agg (yh x)) g) (hl:xs.length≤1000000000000):qt Tryz.prog 154 [.lst full (xs.map yh),fv] (aI (idxI xs g)):=by
 refine qSQ Tryz.call154 Tryz.func154 rfl {} ?_;obtain ⟨f,first,caps,rfl,hf⟩:=hf;simp [go_sem];refine qD.up xs.length (fun k st=>st.tm 0 = .lst full (xs.map yh)∧st.tm 1 = .fn (.func f) first caps∧st.tm 6 = .lst full (xs.map yh)∧st.tm 7=aI xs.length∧st.tm 8=aI k∧st.mu=[]∧∀(j:Nat) (h:j<xs.length),j<k→g xs[j]=false) ?_ ?_
 ·simp [go_sem]
 ·rintro k st hk ⟨e0,e1,e6,e7,e8,hm,hb⟩
  by_cases he:k=xs.length
  ·subst he
   simp [go_sem,e0,e1,e6,e7,e8,hm];rw [Zo (fun j h=>hb j h h)];exact .hf _ (HF.sc _)
  ·have hlt:k<xs.length:=by omega
   obtain ⟨args',hs,hw⟩:=hf xs[k] (qJ hlt);have hw':=qy (n:=((k+1:Nat):Int)) (by omega) (by omega);simp [go_sem,e0,e1,e6,e7,e8,hm,hlt,U7 xs[k],qr];refine .inl ⟨_,.inl ⟨f,first,caps,args',rfl,hs,.inl hw⟩,?_⟩;cases hg:g xs[k] with
   |true =>
    simp [go_sem,e0,e1,e6,e7,e8,hm];rw [Qa hlt hg (fun j h hj=>hb j h hj)];exact .hf _ (HF.sc _)
   |false =>
    simp [go_sem,e0,e1,e6,e7,e8,hm,hlt];simp at hw';refine ⟨hw',fun j h hj=>?_⟩;by_cases hjk:j=k
    ·subst hjk;exact hg
    ·exact hb j h (by omega)
theorem hasSo (full:Bool) (xs:List (ByteArray×Bool)) (fv:AV) (g:ByteArray×Bool→Bool) (hf:ju Tryz.prog fv xs (fun x => .agg (yh x)) g) (hh:HF fv) (hh2:HF (.lst full (xs.map yh))) (hl:xs.length≤1000000000000):qt Tryz.prog 100 [.lst full (xs.map yh),fv] (aB (xs.any g)):=by
 refine qSQ Tryz.call100 Tryz.func100 rfl {} ?_;simp [go_sem];refine qc.pure (idxSo full xs fv g hf hl) (.cons (.hf hh2) (.cons (.hf hh) .nil)) ?_;simp [go_sem];rw [Zp];exact .hf _ (HF.sc _)
theorem idxFl (full:Bool) (xs:List (Fld)) (fv:AV) (g:Fld→Bool) (hf:ju Tryz.prog fv xs (fun x => .agg (yi x)) g) (hl:xs.length≤1000000000000):qt Tryz.prog 155 [.lst full (xs.map yi),fv] (aI (idxI xs g)):=by
 refine qSQ Tryz.call155 Tryz.func155 rfl {} ?_;obtain ⟨f,first,caps,rfl,hf⟩:=hf;simp [go_sem];refine qD.up xs.length (fun k st=>st.tm 0 = .lst full (xs.map yi)∧st.tm 1 = .fn (.func f) first caps∧st.tm 6 = .lst full (xs.map yi)∧st.tm 7=aI xs.length∧st.tm 8=aI k∧st.mu=[]∧∀(j:Nat) (h:j<xs.length),j<k→g xs[j]=false) ?_ ?_
 ·simp [go_sem]
 ·rintro k st hk ⟨e0,e1,e6,e7,e8,hm,hb⟩
  by_cases he:k=xs.length
  ·subst he
   simp [go_sem,e0,e1,e6,e7,e8,hm];rw [Zo (fun j h=>hb j h h)];exact .hf _ (HF.sc _)
  ·have hlt:k<xs.length:=by omega
   obtain ⟨args',hs,hw⟩:=hf xs[k] (qJ hlt);have hw':=qy (n:=((k+1:Nat):Int)) (by omega) (by omega);simp [go_sem,e0,e1,e6,e7,e8,hm,hlt,U9 xs[k],qr];refine .inl ⟨_,.inl ⟨f,first,caps,args',rfl,hs,.inl hw⟩,?_⟩;cases hg:g xs[k] with
   |true =>
    simp [go_sem,e0,e1,e6,e7,e8,hm];rw [Qa hlt hg (fun j h hj=>hb j h hj)];exact .hf _ (HF.sc _)
   |false =>
    simp [go_sem,e0,e1,e6,e7,e8,hm,hlt];simp at hw';refine ⟨hw',fun j h hj=>?_⟩;by_cases hjk:j=k
    ·subst hjk;exact hg
    ·exact hb j h (by omega)
theorem hasFl (full:Bool) (xs:List (Fld)) (fv:AV) (g:Fld→Bool) (hf:ju Tryz.prog fv xs (fun x => .agg (yi x)) g) (hh:HF fv) (hh2:HF (.lst full (xs.map yi))) (hl:xs.length≤1000000000000):qt Tryz.prog 102 [.lst full (xs.map yi),fv] (aB (xs.any g)):=by
 refine qSQ Tryz.call102 Tryz.func102 rfl {} ?_;simp [go_sem];refine qc.pure (idxFl full xs fv g hf hl) (.cons (.hf hh2) (.cons (.hf hh) .nil)) ?_;simp [go_sem];rw [Zp];exact .hf _ (HF.sc _)
theorem idxPm (full:Bool) (xs:List (ByteArray×Int)) (fv:AV) (g:ByteArray×Int→Bool) (hf:ju Tryz.prog fv xs (fun x => .agg (cPm x)) g) (hl:xs.length≤1000000000000):qt Tryz.prog 156 [.lst full (xs.map cPm),fv] (aI (idxI xs g)):=by
 refine qSQ Tryz.call156 Tryz.func156 rfl {} ?_;obtain ⟨f,first,caps,rfl,hf⟩:=hf;simp [go_sem];refine qD.up xs.length (fun k st=>st.tm 0 = .lst full (xs.map cPm)∧st.tm 1 = .fn (.func f) first caps∧st.tm 6 = .lst full (xs.map cPm)∧st.tm 7=aI xs.length∧st.tm 8=aI k∧st.mu=[]∧∀(j:Nat) (h:j<xs.length),j<k→g xs[j]=false) ?_ ?_
 ·simp [go_sem]
 ·rintro k st hk ⟨e0,e1,e6,e7,e8,hm,hb⟩
  by_cases he:k=xs.length
  ·subst he
   simp [go_sem,e0,e1,e6,e7,e8,hm];rw [Zo (fun j h=>hb j h h)];exact .hf _ (HF.sc _)
  ·have hlt:k<xs.length:=by omega
   obtain ⟨args',hs,hw⟩:=hf xs[k] (qJ hlt);have hw':=qy (n:=((k+1:Nat):Int)) (by omega) (by omega);simp [go_sem,e0,e1,e6,e7,e8,hm,hlt,Wa xs[k],qr];refine .inl ⟨_,.inl ⟨f,first,caps,args',rfl,hs,.inl hw⟩,?_⟩;cases hg:g xs[k] with
   |true =>
    simp [go_sem,e0,e1,e6,e7,e8,hm];rw [Qa hlt hg (fun j h hj=>hb j h hj)];exact .hf _ (HF.sc _)
   |false =>
    simp [go_sem,e0,e1,e6,e7,e8,hm,hlt];simp at hw';refine ⟨hw',fun j h hj=>?_⟩;by_cases hjk:j=k
    ·subst hjk;exact hg
    ·exact hb j h (by omega)
theorem hasPm (full:Bool) (xs:List (ByteArray×Int)) (fv:AV) (g:ByteArray×Int→Bool) (hf:ju Tryz.prog fv xs (fun x => .agg (cPm x)) g) (hh:HF fv) (hh2:HF (.lst full (xs.map cPm))) (hl:xs.length≤1000000000000):qt Tryz.prog 106 [.lst full (xs.map cPm),fv] (aB (xs.any g)):=by
 refine qSQ Tryz.call106 Tryz.func106 rfl {} ?_;simp [go_sem];refine qc.pure (idxPm full xs fv g hf hl) (.cons (.hf hh2) (.cons (.hf hh) .nil)) ?_;simp [go_sem];rw [Zp];exact .hf _ (HF.sc _)
theorem idxFa (full:Bool) (xs:List (ByteArray×Nd)) (fv:AV) (g:ByteArray×Nd→Bool) (hf:ju Tryz.prog fv xs (fun x => .agg (cFa x)) g) (hl:xs.length≤1000000000000):qt Tryz.prog 157 [.lst full (xs.map cFa),fv] (aI (idxI xs g)):=by
 refine qSQ Tryz.call157 Tryz.func157 rfl {} ?_;obtain ⟨f,first,caps,rfl,hf⟩:=hf;simp [go_sem];refine qD.up xs.length (fun k st=>st.tm 0 = .lst full (xs.map cFa)∧st.tm 1 = .fn (.func f) first caps∧st.tm 6 = .lst full (xs.map cFa)∧st.tm 7=aI xs.length∧st.tm 8=aI k∧st.mu=[]∧∀(j:Nat) (h:j<xs.length),j<k→g xs[j]=false) ?_ ?_
 ·simp [go_sem]
 ·rintro k st hk ⟨e0,e1,e6,e7,e8,hm,hb⟩
  by_cases he:k=xs.length
  ·subst he
   simp [go_sem,e0,e1,e6,e7,e8,hm];rw [Zo (fun j h=>hb j h h)];exact .hf _ (HF.sc _)
  ·have hlt:k<xs.length:=by omega
   obtain ⟨args',hs,hw⟩:=hf xs[k] (qJ hlt);have hw':=qy (n:=((k+1:Nat):Int)) (by omega) (by omega);simp [go_sem,e0,e1,e6,e7,e8,hm,hlt,Yp xs[k],qr];refine .inl ⟨_,.inl ⟨f,first,caps,args',rfl,hs,.inl hw⟩,?_⟩;cases hg:g xs[k] with
   |true =>
    simp [go_sem,e0,e1,e6,e7,e8,hm];rw [Qa hlt hg (fun j h hj=>hb j h hj)];exact .hf _ (HF.sc _)
   |false =>
    simp [go_sem,e0,e1,e6,e7,e8,hm,hlt];simp at hw';refine ⟨hw',fun j h hj=>?_⟩;by_cases hjk:j=k
    ·subst hjk;exact hg
    ·exact hb j h (by omega)
theorem hasFa (full:Bool) (xs:List (ByteArray×Nd)) (fv:AV) (g:ByteArray×Nd→Bool) (hf:ju Tryz.prog fv xs (fun x => .agg (cFa x)) g) (hh:HF fv) (hh2:HF (.lst full (xs.map cFa))) (hl:xs.length≤1000000000000):qt Tryz.prog 109 [.lst full (xs.map cFa),fv] (aB (xs.any g)):=by
 refine qSQ Tryz.call109 Tryz.func109 rfl {} ?_;simp [go_sem];refine qc.pure (idxFa full xs fv g hf hl) (.cons (.hf hh2) (.cons (.hf hh) .nil)) ?_;simp [go_sem];rw [Zp];exact .hf _ (HF.sc _)
end Go.Proofs.YtcfopdccdeeleaaGreatDoor.YF


namespace Go.Proofs.YtcfopdccdeeleaaGreatDoor.Y9
open Go Go.Ev Go.Proofs Y1 Y2 Y3 Y4 P1 YM Y5 Y6 Y7 Y8 YS YF
abbrev cCk (c:Ck):List AV:=[lSo c.ts.sorts,lFl c.ts.fields,lPd c.ts.preds,lFa c.ts.facts,aI c.calls,.lst false (c.timed.map fun b=>[aB b])]
abbrev eCk (c:Ck):AV := .ip (cCk c)
theorem yV (c:Ck):HF (eCk c):=HF.ip fun x hx=>by
 simp only [cCk,qK,zb,or_false] at hx;rcases hx with rfl | rfl | rfl | rfl | rfl | rfl
 ·exact w6 _
 ·exact w7 _
 ·exact ua _
 ·exact Zn _
 ·exact HF.sc _
 ·exact HF.lst fun r hr c hc=>by
   obtain ⟨b,_,rfl⟩:=qE.1 hr;simp at hc;subst hc;exact HF.sc _
structure okTS (s:TS):Prop where
 ns:s.sorts.length≤4
 nf:s.fields.length≤6
 np:s.preds.length≤8
 nfa:s.facts.length≤16
 sl:∀ x,x∈s.sorts→x.1.size≤4611686018427387904
 fl:∀ f,f∈s.fields→1≤f.sorts.length∧f.sorts.length≤3∧∀ x,x∈f.sorts→0≤x∧x<s.sorts.length
 pl:∀ p,p∈s.preds→p.params.length≤8∧∀ x,x∈p.params→0≤x.2∧x.2<s.sorts.length
structure okCk (c:Ck):Prop where
 ts:okTS c.ts
 calls:c.calls≤c.ts.preds.length
 timed:c.calls≤c.timed.length
theorem qcM (p:Pd) (nm:ByteArray):qt Tryz.prog 162 [.agg (cPd p),.ip [aS nm]] (aB (decide (p.name=nm))):=by
 refine qSQ Tryz.call162 Tryz.func162 rfl {} ?_;by_cases h:p.name=nm
 ·simp [go_sem,h]
  exact .hf _ (HF.sc _)
 ·simp [go_sem,h,zL h]
  exact .hf _ (HF.sc _)
theorem K8 (c:Ck) (hc:okCk c) (nm:ByteArray):qt Tryz.prog 126 [eCk c,aS nm] (aI (match zJ c nm with | some i=>i | none => -1)):=by
 refine qSQ Tryz.call126 Tryz.func126 rfl {} ?_;simp [go_sem];refine qx.intro (by kernel_rfl) ?_;have hcl:=hc.calls;have hnp:=hc.ts.np;have htk:List.take c.calls (c.ts.preds.map cPd)=(c.ts.preds.take c.calls).map cPd:=by rw [List.map_take]
 simp [go_sem,show (c.calls:Int)≤c.ts.preds.length by omega];refine ⟨⟨_,_,⟨rfl,rfl⟩,fun r hr=>by obtain ⟨p,_,rfl⟩:=qE.1 hr;exact (jt p).1⟩,?_⟩;rw [htk];have hfn:HF (.fn (.func 162) [] [.ip [aS nm]]):=HF.fn (by simp) (fun x hx=>by simp at hx;subst hx;exact HF.ip fun y hy=>by simp at hy;subst hy;exact HF.sc _);refine qc.pure (Wb false (c.ts.preds.take c.calls) _ (fun p=>decide (p.name=nm)) ⟨_,_,_,rfl,fun p hp=>⟨_,qcM p nm,.cons (.hf (HF.agg (uy p))) (.cons (.hf (HF.ip fun y hy=>by simp at hy;subst hy;exact HF.sc _)) .nil)⟩⟩ (by simp;omega)) (.cons (.hf (ua _)) (.cons (.hf hfn) .nil)) ?_;simp [go_sem];exact .hf _ (HF.sc _)
theorem Qd {c:Ck} (hc:okCk c) {nm:ByteArray} {p:Nat} (h:zJ c nm=some p):p<c.calls∧p<c.ts.preds.length:=by
 unfold zJ at h;rw [List.findIdx?_eq_some_iff_getElem] at h;obtain ⟨hp,_⟩:=h;simp at hp;omega
theorem K9 (c:Ck) (hc:okCk c) (n:Nd):qt Tryz.prog 84 [eCk c,eNd n] (aB (yO c n.op n.name)):=by
 refine qSQ Tryz.call84 Tryz.func84 rfl {} ?_;unfold yO yn;by_cases h5:n.op=5
 ·simp [go_sem,h5];exact .hf _ (HF.sc _)
 by_cases h48:n.op=48
 ·simp [go_sem,h48];exact .hf _ (HF.sc _)
 by_cases h49:n.op=49
 ·simp [go_sem,h49];exact .hf _ (HF.sc _)
 by_cases h50:n.op=50
 ·simp [go_sem,h50];exact .hf _ (HF.sc _)
 by_cases h51:n.op=51
 ·simp [go_sem,h51];exact .hf _ (HF.sc _)
 by_cases h47:n.op=47
 ·simp [go_sem,h47]
  refine qc.pure (K8 c hc n.name) (.cons (.hf (yV c)) (.cons (.hf (HF.sc _)) .nil)) ?_;cases hq:zJ c n.name with
  |none =>
   simp [go_sem];exact .hf _ (HF.sc _)
  |some p =>
   obtain ⟨h1,h2⟩:=Qd hc hq;have h3:p<c.timed.length:=u7 h1 hc.timed;simp [go_sem,h3];exact .hf _ (HF.sc _)
 ·simp [go_sem,h5,h48,h49,h50,h51,h47]
  exact .hf _ (HF.sc _)
theorem kb (c:Ck):∀ ks:List Nd,J1 c ks=ks.any (yJ c)
 | []=>rfl
 |k :: ks=>by simp [J1,kb c ks]
noncomputable abbrev szN (n:Nd):Nat:=SizeOf.sizeOf n
theorem yu {n k:Nd} (h:k∈n.kids):szN k<szN n:=by
 obtain ⟨op,nm,i,ks,p⟩:=n;have:SizeOf.sizeOf k<SizeOf.sizeOf ks:=List.sizeOf_lt_of_mem h;simp only [szN,Nd.mk.sizeOf_spec];omega
inductive Small:Nd→Prop where
 |mk (n:Nd) (h:n.kids.length≤1000) (hk:∀ k,k∈n.kids→Small k):Small n
theorem Small.len {n:Nd} (h:Small n):n.kids.length≤1000:=by cases h;assumption
theorem Small.kid {n k:Nd} (h:Small n) (hk:k∈n.kids):Small k:=by
 cases h with
 |mk _ _ h=>exact h k hk
theorem kc (c:Ck) (n:Nd):yJ c n=(yO c n.op n.name||n.kids.any (yJ c)):=by
 obtain ⟨op,nm,i,ks,p⟩:=n;simp [yJ,kb,Nd.op,Nd.name,Nd.kids]
theorem kf (c:Ck) (hc:okCk c):∀(m:Nat) (n:Nd),szN n≤m→Small n→qt Tryz.prog 83 [eCk c,eNd n] (aB (yJ c n))
 | 0,n,hm,_=>by obtain ⟨op,nm,i,ks,p⟩:=n;simp [szN] at hm
 |m+1,n,hm,hs=>by
  refine qSQ Tryz.call83 Tryz.func83 rfl {} ?_;rw [kc];simp [go_sem];refine qc.pure (K9 c hc n) (.cons (.hf (yV c)) (.cons (.hf (qO n)) .nil)) ?_;cases ht:yO c n.op n.name with
  |true =>
   simp [go_sem];exact .hf _ (HF.sc _)
  |false =>
   simp [go_sem];have hfn:HF (.fn (.func 83) [eCk c] []):=HF.fn (fun x hx=>by simp at hx;subst hx;exact yV c) (by simp);refine qc.pure (hasNd false n.kids _ (yJ c) ⟨_,_,_,rfl,fun k hk=>⟨_,kf c hc m k (by have:=yu hk;omega) (hs.kid hk),.cons (.hf (yV c)) (.cons (.hf (qO k)) .nil)⟩⟩ hfn (Yk _) (by have:=hs.len;omega)) (.cons (.hf (Yk _)) (.cons (.hf hfn) .nil)) ?_;simp [go_sem];exact .hf _ (HF.sc _)
end Go.Proofs.YtcfopdccdeeleaaGreatDoor.Y9


namespace Go.Proofs.YtcfopdccdeeleaaGreatDoor.Y10
open Go Go.Ev Go.Proofs Y1 Y2 Y3 Y4 P1 YM Y5 Y6 Y7 Y8 YS YF Y9
abbrev rB (b:Bool):List AV:=[aB b]
theorem Wc (l:List Bool):zC 1 (l.map rB):=fun r hr=>by
 obtain ⟨n,_,rfl⟩:=qE.1 hr;exact ⟨rfl,rfl⟩
theorem OwnF.rdB {lo:Nat} {mu:Mu} {av:AV} {xs:List Bool} (h:OwnF lo mu 1 av (xs.map rB)):Rd mu av (.lst false (xs.map rB)):=
 h.1.rd (Wc xs).ok fun r hr c hc=>by
  obtain ⟨n,_,rfl⟩:=qE.1 hr;simp at hc;subst hc;exact HF.sc _
theorem Wd {lo sz:Nat} {mu mu':Mu} {av:AV} {xs:List (List AV)} (h:OwnF lo mu sz av xs) (hm:MuLe mu mu'):OwnF lo mu' sz av xs:=by
 obtain ⟨ho,hb,hl⟩:=h;have hlen:mu.length≤mu'.length:=by
  rcases Nat.eq_zero_or_pos mu.length with h0 | h0
  ·omega
  ·have:=hm (mu.length-1) mu[mu.length-1] (qX (by omega))
   have:=(qv.1 this).1;omega
 refine ⟨?_,hb,yZ hl hlen⟩;rcases ho with rfl | ⟨b,rfl,hc⟩
 ·exact .inl rfl
 ·exact .inr ⟨b,rfl,hm _ _ hc⟩
theorem Qe (ts:TS):∀ k,k≤ts.preds.length→(tmsL ts k).length=k
 | 0,_=>rfl
 |k+1,h=>by
  have hk:k<ts.preds.length:=by omega
  simp [tmsL,Qe ts k (by omega),qX hk]
theorem vO {ts:TS} (h:okTS ts) {k:Nat} (hk:k≤ts.preds.length):okCk (mkCk ts k):=⟨h,hk,Nat.le_of_eq (Qe ts k hk).symm⟩
theorem We (ts:TS) (h:okTS ts) (hs:∀ p,p∈ts.preds→Small p.body) (n:Nat) (hn:n≤ts.preds.length):qt Tryz.prog 41 [eTS ts,aI n] (eCk (mkCk ts n)):=by
 refine qSQ Tryz.call41 Tryz.func41 rfl { mt:=[9] } ?_;have hnp:=h.np;simp [go_sem];refine qD.upK n (fun k st=>∃ av rest,st.tm 1=aI n∧st.tm 2 = .ip (cTS ts)∧st.tm 5 = .ptr 0 0∧st.mu=[.arr [lSo ts.sorts,lFl ts.fields,lPd ts.preds,lFa ts.facts,aI k,av]]++rest∧OwnF 1 st.mu 1 av ((tmsL ts k).map rB)) ?_ ?_
 ·refine ⟨.lst true [],[],by simp [go_sem],by simp [go_sem],by simp [go_sem],by simp [go_sem],?_⟩
  exact OwnF.nil (by simp [go_sem])
 ·rintro k st hk ⟨av,rest,e1,e2,e5,hm,ho⟩
  have hrd:Rd st.mu (.ptr 0 0) (eCk (mkCk ts k)):=by
   rw [hm];refine .ptr 0 0 _ _ rfl (by simp) (fun j x y hx hy=>?_);rw [←hm]
   match j with
   | 0=>simp at hx hy;subst hx;subst hy;exact .hf _ (w6 _)
   | 1=>simp at hx hy;subst hx;subst hy;exact .hf _ (w7 _)
   | 2=>simp at hx hy;subst hx;subst hy;exact .hf _ (ua _)
   | 3=>simp at hx hy;subst hx;subst hy;exact .hf _ (Zn _)
   | 4=>simp at hx hy;subst hx;subst hy;exact .hf _ (HF.sc _)
   | 5=>simp at hx hy;subst hx;subst hy;exact OwnF.rdB ho
   |j+6=>simp at hx
  by_cases hlt:k<n
  ·have hkp:k<ts.preds.length:=by omega
   simp [go_sem,e1,e2,e5,hm,hlt];refine qx.intro (by kernel_rfl) ?_;have ho':OwnF 1 (st.mu++[.arr (cNd ts.preds[k].body)]) 1 av ((tmsL ts k).map rB):=Wd ho (MuLe.push _ _);have hrd':=Rd.le (MuLe.push st.mu (.arr (cNd ts.preds[k].body))) hrd;have htm:=kf (mkCk ts k) (vO h (by omega)) _ ts.preds[k].body (qB _) (hs _ (qJ hkp));have hts:tmsL ts (k+1)=tmsL ts k++[yJ (mkCk ts k) ts.preds[k].body]:=by
    simp only [tmsL,qX hkp];rfl
   have hl:=Qe ts k (by omega);rw [hm] at ho' hrd';simp [go_sem,e1,e2,e5,hm,hlt,hkp,qr];refine qx.intro (by kernel_rfl) ?_;simp [go_sem,e1,e2,e5,hm,hlt,hkp,qb1];refine qc.lend htm ⟨by simpa using hrd',.hf _ (qO _),trivial⟩ (FL.sc _) ?_;simp [go_sem,e1,e2,e5,hm,hlt,hkp];refine zo.ownF (lo:=1) (e:=4) (sz:=1) (bt:=1) (zv:=aB false) (xs:=(tmsL ts k).map rB) (ys:=[rB (yJ (mkCk ts k) ts.preds[k].body)]) (by simp [go_sem]) (by simp [go_sem]) (by simp [go_sem]) rfl rfl (by omega) (by omega) (by simpa using ho') (by simp [zf]) (Wc _) (Wc [_]) (by simp;omega) ?_;intro av' mu' ho2 hk2;obtain ⟨rest',rfl⟩:=qb6 (hk2 0 (by omega));have w1:IntKind.i64.wrap ((k:Int)+1)=(k:Int)+1:=qy (by omega) (by omega);simp [go_sem,e1,e2,e5,hm,hlt,hkp,w1,OwnF.cells ho2,OwnF.one ho2];refine Keep.mk' ?_;refine ⟨av',rest',by simp [go_sem,e1],by simp [go_sem,e2],by simp [go_sem,e5],by simp [go_sem],?_⟩;have e3:(tmsL ts k).map rB++[rB (yJ (mkCk ts k) ts.preds[k].body)]=(tmsL ts (k+1)).map rB:=by rw [hts,List.map_append];rfl
   rw [←e3];exact OwnF.low (low:=[.arr [lSo ts.sorts,lFl ts.fields,lPd ts.preds,lFa ts.facts,aI k,av]]) (low':=[.arr [lSo ts.sorts,lFl ts.fields,lPd ts.preds,lFa ts.facts,aI (k+1),av']]) ho2 rfl
  ·obtain rfl:k=n:=by omega
   simp [go_sem,e1,e2,e5,hm];rw [hm] at hrd;exact hrd
theorem ofU' (full:Bool) (l:List Int) (hl:l.length≤3) (hr:∀ x,x∈l→0≤x∧x<128):qt Tryz.prog 88 [.lst full (l.map rI)] (eKd (kOf l)):=by
 have:=ofU l hl hr;refine ⟨this.1,fun imm w vs hi ra=>this.2 imm w vs hi ?_⟩;obtain ⟨v,rfl,rv⟩:=ra.one_inv;exact ⟨rfl,fun k x hk=>by
  cases k with
  |zero=>simp at hk;subst hk;simpa using rv.ro
  |succ k=>simp at hk⟩
theorem kg (ns:Nat) (hns:ns≤4) (env:List (ByteArray×Int)) (he:env.length≤1000000) (hr:∀ p,p∈env→0≤p.2∧p.2<ns):qt Tryz.prog 43 [lPm env] (aSc (zQ env)):=by
 refine qSQ Tryz.call43 Tryz.func43 rfl {} ?_;simp [go_sem];refine qD.up env.length (fun k st=>st.tm 3=aSc (zQ (env.take k))∧st.tm 6=lPm env∧st.tm 7=aI env.length∧st.tm 8=aI k) ?_ ?_
 ·simp [go_sem]
  rfl
 ·rintro k st hk ⟨e3,e6,e7,e8⟩
  by_cases he':k=env.length
  ·subst he'
   simp [go_sem,e3,e6,e7,e8];exact .hf _ (uw _)
  ·have hlt:k<env.length:=by omega
   have hb:zQ (env.take (k+1))=(env[k].1,kOf [env[k].2]) :: zQ (env.take k):=by
    unfold zQ;rw [List.take_add_one,qX hlt,List.foldl_append];rfl
   have hof:=ofU' true [env[k].2] (by simp) (fun x hx=>by simp at hx;subst hx;have:=hr _ (qJ hlt);omega);have w1:IntKind.i64.wrap ((k:Int)+1)=(k:Int)+1:=qy (by omega) (by omega);simp [go_sem,e3,e6,e7,e8,hlt];refine qx.intro (by kernel_rfl) ?_;simp [go_sem,e3,e6,e7,e8,hlt];refine qc.pure hof (.cons (.hf (HF.lst fun r hr c hc=>by simp at hr;subst hr;simp at hc;subst hc;exact HF.sc _)) .nil) ?_;simp [go_sem,e3,e6,e7,e8,hlt,w1];rw [hb];rfl
theorem Qf (a b:ByteArray):(a.toList == b.toList)=decide (a=b):=by
 by_cases h:a=b
 ·subst h;simp
 ·rw [zL h,decide_eq_false h]
theorem appK {mu:Mu} {s:AV} {xs:List Kd} {k:Kd} {K:AV→Mu→Prop} (ho:OwnF 0 mu 2 s (xs.map cKd)) (hl:xs.length≤100000) (kk:∀ av mu',OwnF 0 mu' 2 av ((xs++[k]).map cKd)→K av mu') :
  zo Tryz.prog mu #[149,149] s (.lst true [cKd k]) K:=by
 refine zo.ownF (lo:=0) (e:=82) (sz:=2) (bt:=16) (zv := .agg [aI 0,.sc (.map none)]) (xs:=xs.map cKd) (ys:=[cKd k]) (by simp [go_sem]) (by simp [go_sem]) (by simp [go_sem]) rfl rfl (by omega) (by omega) ho (by simp [zf]) (wt _) (wt [k]) (by simp;omega) ?_;intro av mu' h _;exact kk av mu' (by rw [List.map_append];exact h)
theorem kh {mu:Mu} {s:AV} {xs:List Kd} {k:Kd} {K:AV→Mu→Prop} {b:Nat} {c:Cell} (ho:Own mu 2 s (xs.map cKd)) (hb:mu[b]?=some c) (hs:∀ off len,s ≠ .sl b 2 off len) (hl:xs.length≤100000)
  (kk:∀ av mu',Own mu' 2 av ((xs++[k]).map cKd)→mu'[b]?=some c→(∀ off len,av ≠ .sl b 2 off len)→K av mu') :
  zo Tryz.prog mu #[149,149] s (.lst true [cKd k]) K:=by
 have hbl:b<mu.length:=(qv.1 hb).1;have hfl:=jp (wt xs).ok;refine .inl ⟨_,_,82,2,16,[cKd k],rfl,by simp [go_sem],by simp [go_sem],⟨.agg [aI 0,.sc (.map none)],by simp [go_sem],rfl,rfl⟩,by omega,by omega,by simp [zf],wt [k],?_⟩;rcases ho with rfl | ⟨b0,rfl,hc⟩
 ·refine .inl ⟨xs.map cKd,rfl,wt xs,by simp;omega,fun h=>by simp at h,fun _=>?_⟩
  refine kk _ _ (.inr ⟨mu.length,by simp,by simp⟩) (by rw [qz hbl];exact hb) (fun off len e=>?_);injection e;omega
 ·refine .inr ⟨b0,xs.length,_,by simp,hc,by simp at hfl ⊢;omega,by simp;omega,?_⟩
  have hne:b0≠b:=fun e=>hs 0 _ (by rw [e])
  refine kk _ _ (.inr ⟨mu.length,by simp,?_⟩) (by rw [qz (by simpa using hbl),qL hne];exact hb) (fun off len e=>?_)
  ·rw [zl (by simp)]
   have:(List.map cKd xs).flatten.take (xs.length*2)=(List.map cKd xs).flatten:=y5 (by simp at hfl ⊢;omega);simp only [List.length_set,Nat.sub_self,Qo,this,List.map_append,List.flatten_append];rfl
  ·injection e;omega
theorem jW {mu:Mu} {sz:Nat} {s:AV} {xs:List (List AV)} (h:Own mu sz s xs) (c:Cell):Own (mu++[c]) sz s xs:=by
 rcases h with rfl | ⟨b,rfl,hc⟩
 ·exact .inl rfl
 ·exact .inr ⟨b,rfl,by rw [qz (qv.1 hc).1];exact hc⟩
theorem qcN {mu:Mu} {sz:Nat} {s:AV} {xs:List (List AV)} (h:Own mu sz s xs):∀ off len,s ≠ .sl mu.length sz off len:=by
 intro off len e;rcases h with rfl | ⟨b,rfl,hc⟩
 ·cases e
 ·have:=(qv.1 hc).1
  injection e;omega
theorem qcO {fs:List Fld} {k:Nat} (hk:k<fs.length) (nm:ByteArray):yz (fs.take (k+1)) nm=yz (fs.take k) nm++(if fs[k].name=nm then [kOf fs[k].sorts] else []):=by
 unfold yz;rw [List.take_add_one,qX hk,List.filterMap_append];congr 1;simp only [Option.toList_some,List.filterMap_cons,List.filterMap_nil];split<;>rename_i h<;>split at h<;>simp_all
theorem ki (fs:List Fld) (nm:ByteArray):(yz fs nm).length≤fs.length:=List.length_filterMap_le ..
theorem kj:∀{so:List (ByteArray×Bool)} {i k:Nat} (hk:k<so.length) (nm:ByteArray),yA i (so.take (k+1)) nm=yA i (so.take k) nm++vM (i+k) so[k] nm
 | [],_,_,h,_=>by simp at h
 |s :: so,i,0,_,nm=>by simp [yA]
 |s :: so,i,k+1,h,nm=>by
  have:=kj (so:=so) (i:=i+1) (k:=k) (by simpa using h) nm;simp only [List.take_succ_cons,yA,List.getElem_cons_succ] at this ⊢;rw [this,zW,show i+1+k=i+(k+1) by omega]
theorem qcP (i:Nat) (s:ByteArray×Bool) (nm:ByteArray):(vM i s nm).length≤3:=by
 unfold vM;simp only [zr];have h:∀(p:Prop) [Decidable p] (k:Kd),(if p then [k] else []).length≤1:=fun p _ k=>by split<;>simp
 have h1:=h (s.1=nm) (kOf [(i:Int)]);have h2:=h (s.2=true∧s.1++vy=nm) (kOf [(i:Int)]);have h3:=h (s.2=true∧s.1++v7=nm) (kOf [(i:Int),(i:Int)]);omega
theorem kl:∀(so:List (ByteArray×Bool)) (i:Nat) (nm:ByteArray),(yA i so nm).length≤3*so.length
 | [],_,_=>by simp [yA]
 |s :: so,i,nm=>by
  have:=kl so (i+1) nm;have:=qcP i s nm;simp only [yA,zr,List.length_cons];omega
theorem Wf (ts:TS) (h:okTS ts) (nm:ByteArray):qt Tryz.prog 128 [eTS ts,aS nm] (.lst false ((ya ts nm).map cKd)):=by
  refine qSQ Tryz.call128 Tryz.func128 rfl {} ?_;have hnf:=h.nf;have hns:=h.ns;simp [go_sem];refine qD.upK ts.fields.length (fun k st=>st.tm 1=aS nm∧st.tm 2 = .ip (cTS ts)∧st.tm 11=lFl ts.fields∧st.tm 12=aI ts.fields.length∧st.tm 13=aI k∧OwnF 0 st.mu 2 (st.tm 5) ((yz (ts.fields.take k) nm).map cKd)) ?_ ?_
  · exact ⟨by simp [go_sem],by simp [go_sem],by simp [go_sem],by simp [go_sem],by simp [go_sem],by simp [go_sem];exact OwnF.nil (wH _)⟩
  · rintro k st hk ⟨e1,e2,e11,e12,e13,ho⟩
    by_cases he:k=ts.fields.length
    · subst he
      rw [jC] at ho;simp [go_sem,e1,e2,e11,e12,e13];have hl1:=ki ts.fields nm;refine qD.upK ts.sorts.length (fun k st=>st.tm 1=aS nm∧st.tm 29=lSo ts.sorts∧st.tm 30=aI ts.sorts.length∧st.tm 31=aI k∧Own st.mu 2 (st.tm 5) ((yz ts.fields nm++yA 0 (ts.sorts.take k) nm).map cKd)) ?_ ?_
      · exact ⟨by simp [go_sem,e1],by simp [go_sem],by simp [go_sem],by simp [go_sem],by simp [go_sem,yA];simpa using ho.1⟩
      · rintro k st hk ⟨e1,e29,e30,e31,ho⟩
        by_cases he:k=ts.sorts.length
        · subst he
          rw [jC] at ho;simp [go_sem,e1,e29,e30,e31];exact ho.rd (wt _).ok (fun r hr c hc=>by
            obtain ⟨x,_,rfl⟩:=qE.1 hr;simp at hc;rcases hc with rfl | rfl
            · exact HF.sc _
            · exact Yl _)
        · have hlt:k<ts.sorts.length:=by omega
          have w1:IntKind.i64.wrap ((k:Int)+1)=(k:Int)+1:=qy (by omega) (by omega);have hl2:=kl (ts.sorts.take k) 0 nm;have hl3:(ts.sorts.take k).length≤4:=by simp;omega
          have hof1:=ofU' true [(k:Int)] (by simp) (fun x hx=>by simp at hx;subst hx;omega);have hof2:=ofU' true [(k:Int),(k:Int)] (by simp) (fun x hx=>by simp at hx;subst hx;omega);have hr1:HF (.lst true [rI k]):=HF.lst fun r hr c hc=>by simp at hr;subst hr;simp at hc;subst hc;exact HF.sc _
          have hr2:HF (.lst true [rI k,rI k]):=HF.lst fun r hr c hc=>by simp at hr;subst hr;simp at hc;subst hc;exact HF.sc _
          have htk:=kj (i:=0) hlt nm;rw [Nat.zero_add] at htk;have hsz:=h.sl _ (qJ hlt);generalize hso:ts.sorts[k]=so at *
          obtain ⟨sn,sb⟩:=so;have hll:(yz ts.fields nm++yA 0 (ts.sorts.take k) nm).length≤18:=by simp at hl2 hl3 ⊢;omega
          have hlx:∀ x:Kd,((yz ts.fields nm++yA 0 (ts.sorts.take k) nm)++[x]).length≤19:=fun x=>by simp at hll ⊢;omega
          have hly:∀ x y:Kd,(((yz ts.fields nm++yA 0 (ts.sorts.take k) nm)++[x])++[y]).length≤20:=fun x y=>by simp at hll ⊢;omega
          generalize hX:yz ts.fields nm++yA 0 (ts.sorts.take k) nm=X at *
          have hfin:∀(s:AV) (mu:Mu) (Y:List Kd),Y=X++vM k (sn,sb) nm→Own mu 2 s (Y.map cKd)→Own mu 2 s ((yz ts.fields nm++yA 0 (ts.sorts.take (k+1)) nm).map cKd):=by
            intro s mu Y hY h;rw [htk,←zW,hX,←hY];exact h
          have hsf:∀ b:ByteArray,sn++vy=b→(sn++vy).toList == b.toList:=fun b h=>by rw [h];simp
          have hmu:=fun c=>jW ho c
          have hnot:=qcN ho;have hfs:(sn++vy=nm)=(sn++(⟨#[95,102,105,114,115,116]⟩:ByteArray)=nm):=rfl;have hxs:(sn++v7=nm)=(sn++(⟨#[95,110,101,120,116]⟩:ByteArray)=nm):=rfl;simp only [vM,hfs,hxs] at hfin;have hs1:sn.size≤9223372036854775801:=by simp at hsz;omega
          have hs2:sn.size≤9223372036854775802:=by simp at hsz;omega
          simp only [List.map_append] at hfin;obtain ⟨d1,hd1⟩:∃ d,decide (sn=nm)=d:=⟨_,rfl⟩;obtain ⟨d2,hd2⟩:∃ d,decide (sn++(⟨#[95,102,105,114,115,116]⟩:ByteArray)=nm)=d:=⟨_,rfl⟩;obtain ⟨d3,hd3⟩:∃ d,decide (sn++(⟨#[95,110,101,120,116]⟩:ByteArray)=nm)=d:=⟨_,rfl⟩;have p1:(sn=nm)=(d1=true):=by rw [←hd1];simp
          have p2:(sn++(⟨#[95,102,105,114,115,116]⟩:ByteArray)=nm)=(d2=true):=by rw [←hd2];simp
          have p3:(sn++(⟨#[95,110,101,120,116]⟩:ByteArray)=nm)=(d3=true):=by rw [←hd3];simp
          simp only [p1,p2,p3] at hfin;cases d1<;>cases d2<;>cases d3<;>cases sb
          all_goals simp only [if_true,if_false,ye,List.nil_append,and_false,and_true,false_and,true_and,reduceCtorEq] at hfin
          all_goals simp [go_sem,Qf,e1,e29,e30,e31,hlt,hso,hd1,hd2,hd3,w1,hs1,hs2]
          all_goals repeat' (first
            | (refine qc.pure hof1 (.cons (.hf hr1) .nil) ?_
               simp [go_sem];refine kh (b:=st.mu.length) (by first | exact hmu _ | assumption) (by first | assumption | exact List.getElem?_concat_length) (by assumption) (by first | (simp only [zr,List.length_singleton];omega) | omega) ?_;rintro av mu' ho2 hb2 hn2;simp [go_sem,Qf,e1,e29,e30,e31,hlt,hso,hd1,hd2,hd3,w1,hs1,hs2,hb2])
            | (refine qc.pure hof2 (.cons (.hf hr2) .nil) ?_
               simp [go_sem];refine kh (b:=st.mu.length) (by first | exact hmu _ | assumption) (by first | assumption | exact List.getElem?_concat_length) (by assumption) (by first | (simp only [zr,List.length_singleton];omega) | omega) ?_;rintro av mu' ho2 hb2 hn2;simp [go_sem,Qf,e1,e29,e30,e31,hlt,hso,hd1,hd2,hd3,w1,hs1,hs2,hb2]))
          all_goals
            refine Keep.mk' ?_;refine ⟨by simp [go_sem,e1],by simp [go_sem,e29],by simp [go_sem,e30],by simp [go_sem],?_⟩;simp only [qbS,qT];simp;refine hfin _ _ _ ?_ (by first | assumption | exact hmu _);simp
    · have hlt:k<ts.fields.length:=by omega
      have hfl:=h.fl _ (qJ hlt);have w1:IntKind.i64.wrap ((k:Int)+1)=(k:Int)+1:=qy (by omega) (by omega);have hof:=ofU' false ts.fields[k].sorts hfl.2.1 (fun x hx=>by have:=hfl.2.2 x hx;omega);have htk:=qcO hlt nm;have hl1:=ki (ts.fields.take k) nm;by_cases hn:ts.fields[k].name=nm
      · simp [go_sem,e1,e2,e11,e12,e13,hlt,hn]
        refine qc.pure hof (.cons (.hf (j9 _)) .nil) ?_;simp [go_sem,e1,e2,e11,e12,e13,hlt,hn];refine appK (xs:=yz (ts.fields.take k) nm) (Wd ho (MuLe.push _ _)) (by simp at hl1 ⊢;omega) ?_;intro av mu' ho2;simp [go_sem,e1,e2,e11,e12,e13,hlt,w1];refine Keep.mk' ?_;refine ⟨by simp [go_sem,e1],by simp [go_sem,e2],by simp [go_sem,e11],by simp [go_sem,e12],by simp [go_sem],?_⟩;rw [htk,if_pos hn];simpa [go_sem] using ho2
      · simp [go_sem,e1,e2,e11,e12,e13,hlt,hn,zL hn,w1]
        refine Keep.mk' ?_;refine ⟨by simp [go_sem,e1],by simp [go_sem,e2],by simp [go_sem,e11],by simp [go_sem,e12],by simp [go_sem],?_⟩;rw [htk,if_neg hn,ye];simpa [go_sem] using Wd ho (MuLe.push _ _)
end Go.Proofs.YtcfopdccdeeleaaGreatDoor.Y10


namespace Go.Proofs.YtcfopdccdeeleaaGreatDoor.Y11
open Go Go.Ev Go.Proofs Y1 Y2 Y3 Y4 P1 YM Y5 Y6 Y7 Y8 YS YF Y9 Y10
def cKo:Option Kd→List AV
 |some k=>cKd k
 |none=>[aI 0,.sc (.map none)]
@[go_sem] theorem cKo_some (k:Kd):cKo (some k)=cKd k:=rfl
@[go_sem] theorem cKo_none:cKo none=[aI 0,.sc (.map none)]:=rfl
theorem kn (k:Option Kd):∀ c,c∈cKo k→HF c:=by
 intro c hc;cases k with
 |none=>simp [cKo] at hc;rcases hc with rfl | rfl<;>exact HF.sc _
 |some k=>simp [cKo] at hc;rcases hc with rfl | rfl;exact HF.sc _;exact Yl _
theorem qcQ (k:Option Kd):HF (.agg (cKo k)):=HF.agg (kn k)
theorem Wg (k:Option Kd):(cKo k).length=2∧(cKo k).all AV.one=true:=by cases k<;>exact ⟨rfl,rfl⟩
def endK:Res→AEnd
 | .ok k => .ret (.agg (cKo k))
 | .error e => .pan (jq e.1 e.2)
@[go_sem] theorem endK_ok (k:Option Kd):endK (.ok k) = .ret (.agg (cKo k)):=rfl
@[go_sem] theorem qlA (e:Dg):endK (.error e) = .pan (jq e.1 e.2):=rfl
theorem Wh (c:Ck) (hc:okCk c) (s:Scp) (n:Nd):jV Tryz.prog 85 [eCk c,aSc s,eNd n] (endK (jj c s n.name n.pos)):=by
 refine vb.of_sound ?_;refine qSW Tryz.call85 Tryz.func85 rfl {} ?_;simp [go_sem];refine qc.pure (findU s n.name) (.cons (.hf (uw s)) (.cons (.hf (HF.sc _)) .nil)) ?_;unfold jj;cases hf:ji n.name s with
 |cons v r =>
  simp [go_sem,aSc];exact .hf _ (z7 v.2)
 |nil =>
  simp [go_sem,aSc];refine qx.intro (by kernel_rfl) ?_;simp [go_sem];refine qc.pure (Wf c.ts hc.ts n.name) (.cons (.hf (zq c.ts)) (.cons (.hf (HF.sc _)) .nil)) ?_;have hn0:=zN;cases hm:ya c.ts n.name with
  |nil =>
   simp [go_sem];refine qc.pans (zN false 40 n) (.cons (.hf (HF.sc _)) (.cons (.hf (HF.sc _)) (.cons (.hf (qO n)) .nil))) ?_;simp [go_sem];exact .hf _ (yr _ _)
  |cons k ks =>
   simp [go_sem];refine qc.pure (zN true 40 n).toP (.cons (.hf (HF.sc _)) (.cons (.hf (HF.sc _)) (.cons (.hf (qO n)) .nil))) ?_;cases ks with
   |nil =>
    simp [go_sem];refine qc.pure (zN true 44 n).toP (.cons (.hf (HF.sc _)) (.cons (.hf (HF.sc _)) (.cons (.hf (qO n)) .nil))) ?_;simp [go_sem];exact .hf _ (z7 k)
   |cons k2 ks =>
    simp [go_sem];refine qc.pans (zN false 44 n) (.cons (.hf (HF.sc _)) (.cons (.hf (HF.sc _)) (.cons (.hf (qO n)) .nil))) ?_;simp [go_sem];exact .hf _ (yr _ _)
theorem qcR (k ar:Nat) (har:1≤ar) (h3:ar≤3):kSum (zH k ar) (kOf (List.replicate ar (k:Int)))=zH (k+1) ar:=by
 have hnd:∀ k,((List.range k).map fun (i:Nat)=>pad (List.replicate ar (i:Int))).Nodup:=by
  intro k;refine List.pairwise_map.2 ((List.pairwise_iff_getElem.2 fun i j hi hj hij=>?_));simp only [List.getElem_range];obtain ⟨a,rfl⟩:∃ a,ar=a+1:=⟨ar-1,by omega⟩;intro e;simp [pad,List.replicate_succ] at e;omega
 have hu:∀ l:List Tp,l.Nodup→uni [] l=l:=by
  intro l hl;have:∀(b a:List Tp),(a++b).Nodup→uni a b=a++b:=by
   intro b;induction b with
   |nil=>intro a _;simp [uni]
   |cons x b ih =>
    intro a h;have hx:x ∉ a:=fun hm=>(List.nodup_append.1 h).2.2 x hm x (by simp) rfl
    show uni (ins a x) b=_;rw [show ins a x=a++[x] by unfold ins;rw [if_neg hx],ih (a++[x]) (by simpa using h)];simp
  simpa using this l [] (by simpa using hl)
 unfold kSum zH kOf;simp only;rw [hu _ (hnd k)];have h1:=hnd (k+1);rw [List.range_succ,List.map_append,List.map_singleton] at h1 ⊢;have hx:pad (List.replicate ar (k:Int)) ∉ (List.range k).map fun (i:Nat)=>pad (List.replicate ar (i:Int)):=fun hm=>(List.nodup_append.1 h1).2.2 _ hm _ (by simp) rfl
 congr 1;show ins _ _=_;unfold ins;rw [if_neg hx]
theorem Wi (c:Ck) (hc:okCk c) (ar:Nat) (h1:1≤ar) (h3:ar≤3):qt Tryz.prog 131 [eCk c,aI ar] (eKd (zH c.ts.sorts.length ar)):=by
 refine qSQ Tryz.call131 Tryz.func131 rfl {} ?_;have hns:=hc.ts.ns;simp [go_sem];refine qc.pure (KO ar) (.cons (.hf (HF.sc _)) .nil) ?_;simp [go_sem];refine qD.up c.ts.sorts.length (fun k st=>st.tm 1=aI ar∧st.tm 4 = .ptr 0 0∧st.tm 5 = .ptr 1 0∧st.tm 13=lSo c.ts.sorts∧st.tm 14=aI c.ts.sorts.length∧st.tm 15=aI k∧st.mu=[.arr [aI 0,.sc (.map none)],.arr (cKd (zH k ar))]) ?_ ?_
 ·simp [go_sem,zH]
 ·rintro k st hk ⟨e1,e4,e5,e13,e14,e15,hm⟩
  by_cases he:k=c.ts.sorts.length
  ·subst he
   simp [go_sem,e1,e4,e5,e13,e14,e15,hm];exact .hf _ (z7 _)
  ·have hlt:k<c.ts.sorts.length:=by omega
   have w1:IntKind.i64.wrap ((k:Int)+1)=(k:Int)+1:=qy (by omega) (by omega);have hr:=qcK k ar (by omega);have hof:=ofU' false (List.replicate ar (k:Int)) (by simpa using h3) (fun x hx=>by rw [List.eq_of_mem_replicate hx];omega);have hsu:=sumU true (zH k ar) (kOf (List.replicate ar (k:Int))) (fun t ht=>by
    have ht:t∈(List.range k).map fun (i:Nat)=>pad (List.replicate ar (i:Int)):=ht
    obtain ⟨i,_,rfl⟩:=qE.1 ht;rfl) (fun t ht=>by
    have ht:t∈[pad (List.replicate ar (k:Int))]:=ht;simp at ht;subst ht;rfl)
   rw [qcR k ar h1 h3] at hsu;simp [go_sem,e1,e4,e5,e13,e14,e15,hm,hlt];refine qx.intro (by kernel_rfl) ?_;simp [go_sem,e1,e4,e5,e13,e14,e15,hm,hlt];refine qc.pure hr (.cons (WK.lst fun r hr c hc=>by simp at hr;subst hr;simp at hc;subst hc;exact HF.sc _) (.cons (.hf (HF.sc _)) .nil)) ?_;simp [go_sem];refine qc.pure hof (.cons (.hf (j9 _)) .nil) ?_;simp [go_sem];refine qc.pure hsu (.cons (.hf (z7 _)) (.cons (.hf (Yo _ [_])) .nil)) ?_;simp [go_sem,e1,e4,e5,e13,e14,e15,hm,hlt,w1]
end Go.Proofs.YtcfopdccdeeleaaGreatDoor.Y11


namespace Go.Proofs.YtcfopdccdeeleaaGreatDoor.Y12
open Go Go.Ev Go.Proofs Y1 Y2 Y3 Y4 P1 YM Y5 Y6 Y7 Y8 YS YF Y9 Y10 Y11
def trF (t:Tp):Tp:=[t.getD 1 0,t.getD 0 0,0]
theorem kq {a:List Tp} {t:Tp}:t∈uni [] (a.map fun t=>[t.getD 1 0,t.getD 0 0,0])↔∃ x,x∈a∧trF x=t:=by
 rw [vr];simp [trF]
theorem qcS (ns:Nat) (h:ns≤4):ok2 (zH ns 2):=by
 have hnd:((List.range ns).map fun (i:Nat)=>pad (List.replicate 2 (i:Int))).Nodup:=by
  refine List.pairwise_map.2 (List.pairwise_iff_getElem.2 fun i j hi hj hij=>?_);simp only [List.getElem_range];intro e;simp [pad,List.replicate_succ] at e;omega
 refine ⟨rfl,hnd,fun t ht=>?_⟩;have ht:t∈(List.range ns).map fun (i:Nat)=>pad (List.replicate 2 (i:Int)):=ht
 obtain ⟨i,hi,rfl⟩:=qE.1 ht;rw [List.mem_range] at hi;exact ⟨i,i,rfl,by omega,by omega,by omega,by omega⟩
theorem qcT {a:Kd} (h:ok2 a):ok2 (kClo a):=by
 have:∀(f n:Nat) (a:Kd),ok2 a→ok2 (cloN f n a):=by
  intro f;induction f with
  |zero=>intro n a h;exact h
  |succ f ih =>
   intro n a h;unfold cloN;split
   ·exact ih _ _ (h.sum h.join)
   ·exact h
 exact this 70 0 a h
theorem qcU (c:Ck) (hc:okCk c) (op:Int) (a:Kd) (ha:ok2 a) (hop:op=11∨op=12∨op=13):qt Tryz.prog 135 [eCk c,aI op,eKd a] (eKd (binK c.ts.sorts.length op a)):=by
 refine qSQ Tryz.call135 Tryz.func135 rfl {} ?_;have hns:=hc.ts.ns;unfold binK;rcases hop with rfl | rfl | rfl
 ·simp [go_sem]
  refine qc.eff0 (Yn _ _) ?_ (by rintro r m ⟨e,_⟩;cases e);rintro r m ⟨e,c,rfl⟩;cases e;simp [go_sem];refine qD.seen a.ts.length (fun seen st=>st.tm 5 = .ip (cKd a)∧st.tm 6 = .ptr 0 0∧st.tm 7 = .ptr 3 0∧st.tm 25 = .ptr 4 0 ∧
   ColS 2 (.arr [aI 0,.sc (.map none)]) c (.it (eT a.ts) seen) (fun t=>∃ x,(∃ i,i∈seen∧a.ts[i]?=some x)∧trF x=t) st.mu) ?_ ?_
  ·exact ⟨by simp [go_sem],by simp [go_sem],by simp [go_sem],by simp [go_sem],[],rfl,rfl,rfl,rfl,rfl,by simp,by simp,by simp⟩
  ·rintro seen st hnd hlt ⟨e5,e6,e7,e25,l,k0,k1,k2,k3,k4,h1,h2,h3⟩
   simp [go_sem,e5,e6,e7,e25];refine ⟨4,eT a.ts,seen,rfl,k4,fun i e hi hns=>?_,fun hall=>?_⟩
   ·obtain ⟨x,hx,rfl⟩:=wq hi
    have hxo:okT x:=ha.okK.len x (ze hx);have hil:i<a.ts.length:=(qv.1 hx).1;have hx3:x.length=3:=hxo;have hlen:4<st.mu.length:=(qv.1 k4).1;have hget:∀(c:Cell) (l:List Cell) (j:Nat),j<4→((st.mu.set 4 c)++l)[j]?=st.mu[j]?:=fun c l j hj=>by
     rw [qz (by simp;omega),qL (by omega)]
    have q2:=fun c l=>(hget c l 2 (by omega)).trans k2
    have q3:=fun c l=>(hget c l 3 (by omega)).trans k3
    obtain ⟨x0,x1,x2,rfl⟩:∃ x0 x1 x2,x=[x0,x1,x2]:=by
     match x,hx3 with
     | [x0,x1,x2],_=>exact ⟨_,_,_,rfl⟩
    simp [go_sem,e5,e6,e7,e25,k4,hi,hlen,hns,q3];refine OptK.intro _ (updT (t:=[x1,x0,0]) (q2 _ _) rfl h2) ?_;simp [go_sem];refine ⟨i,hil,hns,by simp [go_sem,e5],by simp [go_sem,e6],by simp [go_sem,e7],by simp [go_sem,e25],ins l [x1,x0,0],?_,?_,?_,?_,?_,Zj h1,fun t ht=>?_,fun t=>?_⟩
    ·simp only [qT]
     rw [qL (by omega),hget _ _ 0 (by omega),k0]
    ·simp only [qT]
     rw [qL (by omega),hget _ _ 1 (by omega),k1]
    ·simp only [qT]
     rw [zd (by simp;omega)]
    ·simp only [qT]
     rw [qL (by omega),hget _ _ 3 (by omega),k3]
    ·simp only [qT]
     rw [qL (by omega),qz (by simpa using hlen),zd hlen]
    ·rcases vZ.1 ht with h | rfl
     ·exact h2 t h
     ·rfl
    ·simp only [vZ,h3,U0 hx]
     constructor
     ·rintro (⟨y,h,e⟩ | rfl)
      ·exact ⟨y,.inl h,e⟩
      ·exact ⟨[x0,x1,x2],.inr rfl,rfl⟩
     ·rintro ⟨y,h | rfl,e⟩
      ·exact .inl ⟨y,h,e⟩
      ·exact .inr e.symm
   ·obtain ⟨rest,hm⟩:=four k0 k1 k2 k3
    simp [go_sem,e5,e6,e7,e25,hm];refine Rd.aggs ⟨.hf _ (HF.sc _),Rd.setT (k:=(kTr a).ts) rfl h1 (ux (by simp)) (fun t=>?_),trivial⟩;refine (h3 t).trans (Iff.trans ?_ kq.symm);constructor
    ·rintro ⟨y,h,e⟩;exact ⟨y,(U2 (by simpa using hall)).1 h,e⟩
    ·rintro ⟨y,h,e⟩;exact ⟨y,(U2 (by simpa using hall)).2 h,e⟩
 ·simp [go_sem]
  refine qc.pure (J8 a ha) (.cons (.hf (z7 _)) .nil) ?_;simp [go_sem];exact .hf _ (z7 _)
 ·simp [go_sem]
  refine qc.pure (J8 a ha) (.cons (.hf (z7 _)) .nil) ?_;simp [go_sem];refine qc.pure (Wi c hc 2 (by omega) (by omega)) (.cons (.hf (yV _)) (.cons (.hf (HF.sc _)) .nil)) ?_;simp [go_sem];refine qc.pure (sumU true (kClo a) (zH c.ts.sorts.length 2) (qcT ha).okK.len (qcS _ hns).okK.len) (.cons (.hf (z7 _)) (.cons (.hf (Yo _ [_])) .nil)) ?_;simp [go_sem];exact .hf _ (z7 _)
theorem hfK2 (n:Int) (ts:List Tp):HF (.agg [aI n,mKd ts]):=z7 ⟨n,ts⟩
theorem hfKn:HF (.agg [aI 0,.sc (.map none)]):=qcQ none
theorem wkR (n:Nd) (b:Bool) (e:Int):WKs [aB b,aI e,eNd n] [aB b,aI e,eNd n] := .cons (.hf (HF.sc _)) (.cons (.hf (HF.sc _)) (.cons (.hf (qO n)) .nil))
structure ApOk (op:Int) (l:List (Option Kd)):Prop where
 one:op=5→∃ a,l=[a]
 bin:op=11∨op=12∨op=13→∃ a,l=[some a]∧okK a∧(a.ar=2→ok2 a)
 two:op=6∨op=14∨op=7∨op=8∨op=32∨op=33∨op=9∨op=10→∃ a b,l=[some a,some b]∧okK a∧okK b
theorem Wj {ns:Nat} {op n pos:Int} {l:List (Option Kd)} (h2:op≠2) (h3:op≠3) (h4:op≠4) (h5:op≠5) (b1:op≠11) (b2:op≠12) (b3:op≠13) (t1:op≠6) (t2:op≠14) (t3:op≠7) (t4:op≠8) (t5:op≠32) (t6:op≠33) (h9:op≠9) (h10:op≠10):yB ns op n pos l = .ok none:=by
 unfold yB;rw [if_neg h2,if_neg h3,if_neg h4];split
 ·simp only [h5,b1,b2,b3,or_self,if_false]
  split<;>rfl
 ·simp only [t1,t2,t3,t4,t5,t6,h9,h10,or_self,if_false]
 ·rfl
theorem qcV (c:Ck) (hc:okCk c) (full:Bool) (n:Nd) (l:List (Option Kd)) (hl:ApOk n.op l):jV Tryz.prog 87 [eCk c,eNd n,.lst full (l.map cKo)] (endK (yB c.ts.sorts.length n.op n.n n.pos l)):=by
 refine vb.of_sound ?_;refine qSW Tryz.call87 Tryz.func87 rfl {} ?_;by_cases ho:n.op=2∨n.op=3∨n.op=4∨n.op=5∨n.op=11∨n.op=12∨n.op=13∨n.op=6∨n.op=14∨n.op=7∨n.op=8∨n.op=32∨n.op=33∨n.op=9∨n.op=10
 case neg =>
  simp only [not_or] at ho;obtain ⟨h2,h3,h4,h5,b1,b2,b3,t1,t2,t3,t4,t5,t6,h9,h10⟩:=ho;rw [Wj h2 h3 h4 h5 b1 b2 b3 t1 t2 t3 t4 t5 t6 h9 h10];simp [go_sem,h2,h3,h4,h5,b1,b2,b3,t1,t2,t3,t4,t5,t6,h9,h10];exact .hf _ hfKn
 unfold yB;by_cases h2:n.op=2
 ·simp [go_sem,h2]
  refine qc.pure (KO n.n) (.cons (.hf (HF.sc _)) .nil) ?_;simp [go_sem];exact .hf _ (hfK2 _ _)
 by_cases h3:n.op=3
 ·simp [go_sem,h3]
  refine qc.pure (Wi c hc 1 (by omega) (by omega)) (.cons (.hf (yV _)) (.cons (.hf (HF.sc _)) .nil)) ?_;simp [go_sem];exact .hf _ (z7 _)
 by_cases h4:n.op=4
 ·simp [go_sem,h4]
  refine qc.pure (Wi c hc 2 (by omega) (by omega)) (.cons (.hf (yV _)) (.cons (.hf (HF.sc _)) .nil)) ?_;simp [go_sem];exact .hf _ (z7 _)
 by_cases h5:n.op=5
 ·obtain ⟨a,rfl⟩:=hl.one h5
  cases a with
  |none=>simp [go_sem,h5];exact .hf _ hfKn
  |some a=>simp [go_sem,h5];exact .hf _ (hfK2 _ _)
 by_cases hb:n.op=11∨n.op=12∨n.op=13
 ·obtain ⟨a,rfl,ha,ha2⟩:=hl.bin hb
  have hbi:=fun h=>qcU c hc n.op a (ha2 h) hb
  by_cases h2':a.ar=2
  ·have hbi:=hbi h2'
   rcases hb with h | h | h<;>rw [h] at hbi
   all_goals
    simp [go_sem,h,h2'];refine qx.intro (by kernel_rfl) ?_;simp [go_sem,h,h2'];refine qc.pure (zN true 42 n).toP (wkR n true 42) ?_;simp [go_sem];refine qx.intro (by kernel_rfl) ?_;simp [go_sem,h];refine qc.pure hbi (.cons (.hf (yV _)) (.cons (.hf (HF.sc _)) (.cons (.hf (z7 _)) .nil))) ?_;simp [go_sem];exact .hf _ (z7 _)
  ·rcases hb with h | h | h
   all_goals
    simp [go_sem,h,h2'];refine qx.tail 6 (by kernel_rfl) ?_;simp [go_sem,h,h2'];refine qc.pans (zN false 42 n) (wkR n false 42) ?_;simp [go_sem];exact .hf _ (yr _ _)
 by_cases ht:n.op=6∨n.op=14∨n.op=7∨n.op=8∨n.op=32∨n.op=33
 ·obtain ⟨a,b,rfl,ha,hb'⟩:=hl.two (by omega)
  have hal:=qcD n.op a b ha hb';simp only [not_or] at hb;by_cases h2':a.ar=b.ar
  ·rcases ht with h | h | h | h | h | h<;>rw [h] at hal
   all_goals
    simp [go_sem,h,h2'];refine qx.intro (by kernel_rfl) ?_;simp [go_sem,h,h2'];refine qc.pure (zN true 42 n).toP (wkR n true 42) ?_;simp [go_sem];refine qx.intro (by kernel_rfl) ?_;simp [go_sem,h];refine qc.pure hal (.cons (.hf (HF.sc _)) (.cons (.hf (z7 _)) (.cons (.hf (z7 _)) .nil))) ?_;simp [go_sem];exact .hf _ (z7 _)
  ·rcases ht with h | h | h | h | h | h
   all_goals
    simp [go_sem,h,h2'];refine qx.tail 10 (by kernel_rfl) ?_;simp [go_sem,h,h2'];refine qc.pans (zN false 42 n) (wkR n false 42) ?_;simp [go_sem];exact .hf _ (yr _ _)
 simp only [not_or] at hb ht;by_cases h9:n.op=9
 ·obtain ⟨a,b,rfl,ha,hb'⟩:=hl.two (by omega)
  have hj:=wX a b ha hb';have w1:IntKind.i64.wrap (a.ar+b.ar)=a.ar+b.ar:=qy (by have:=ha.ar;have:=hb'.ar;omega) (by have:=ha.ar;have:=hb'.ar;omega);have w2:IntKind.i64.wrap (a.ar+b.ar-2)=a.ar+b.ar-2:=qy (by have:=ha.ar;have:=hb'.ar;omega) (by have:=ha.ar;have:=hb'.ar;omega);simp [go_sem,h9];refine qx.intro (by kernel_rfl) ?_;by_cases hk1:1≤a.ar+b.ar-2
  ·by_cases hk2:a.ar+b.ar-2≤3
   ·simp [go_sem,h9,w1,w2,hk1,hk2]
    refine qc.pure (zN true 42 n).toP (wkR n true 42) ?_;simp [go_sem];refine qx.intro (by kernel_rfl) ?_;simp [go_sem,h9];refine qc.pure hj (.cons (.hf (z7 _)) (.cons (.hf (z7 _)) .nil)) ?_;simp [go_sem];exact .hf _ (z7 _)
   ·simp [go_sem,h9,w1,w2,hk1,hk2]
    refine qc.pans (zN false 42 n) (wkR n false 42) ?_;simp [go_sem];exact .hf _ (yr _ _)
  ·simp [go_sem,h9,w1,w2,hk1]
   refine qc.pans (zN false 42 n) (wkR n false 42) ?_;simp [go_sem];exact .hf _ (yr _ _)
 by_cases h10:n.op=10
 ·obtain ⟨a,b,rfl,ha,hb'⟩:=hl.two (by omega)
  have w1:IntKind.i64.wrap (a.ar+b.ar)=a.ar+b.ar:=qy (by have:=ha.ar;have:=hb'.ar;omega) (by have:=ha.ar;have:=hb'.ar;omega);by_cases hk2:a.ar+b.ar≤3
  ·have hj:=prodU a b ha hb' hk2
   simp [go_sem,h10];refine qx.intro (by kernel_rfl) ?_;simp [go_sem,h10,w1,hk2];refine qc.pure (zN true 42 n).toP (wkR n true 42) ?_;simp [go_sem];refine qx.intro (by kernel_rfl) ?_;simp [go_sem,h10];refine qc.pure hj (.cons (.hf (z7 _)) (.cons (.hf (z7 _)) .nil)) ?_;simp [go_sem];exact .hf _ (z7 _)
  ·simp [go_sem,h10]
   refine qx.tail 11 (by kernel_rfl) ?_;simp [go_sem,h10,w1,hk2];refine qc.pans (zN false 42 n) (wkR n false 42) ?_;simp [go_sem];exact .hf _ (yr _ _)
 exact absurd ho (by omega)
end Go.Proofs.YtcfopdccdeeleaaGreatDoor.Y12


namespace Go.Proofs.YtcfopdccdeeleaaGreatDoor.P2
open Go Go.Ev Go.Proofs Y1 Y2 Y3 Y4 P1 YM Y5 Y6 Y7 Y8 YF Y9 Y10 Y11 Y12
def kd (op:Int):Int:=if 1≤op∧op≤15 then 101 else if 20≤op∧op≤23 then 105 else if 30≤op∧op≤51 then 102 else 0
def shp (op:Int) (nk:Nat):Option (List Int):=
 if op=1∨op=2∨op=3∨op=4∨op=20∨op=30∨op=31 then some []
 else if op=5∨op=11∨op=12∨op=13∨op=21∨op=34∨op=35∨op=36∨op=37 then some [101]
 else if op=6∨op=7∨op=8∨op=9∨op=10∨op=14∨op=32∨op=33 then some [101,101]
 else if op=15∨op=45∨op=46 then some [101,102]
 else if op=22∨op=23∨op=38∨op=39 then some [105,105]
 else if op=40∨op=48∨op=49∨op=50 then some [102]
 else if op=41∨op=42∨op=43∨op=44∨op=51 then some [102,102]
 else if op=47 then some (List.replicate (min nk 401) 101)
 else none
inductive WfN:Nd→Prop where
 |mk (n:Nd) (h:shp n.op n.kids.length=some (n.kids.map fun k=>kd k.op)) (hn:n.op=2→1≤n.n∧n.n≤3) (hk:∀ k,k∈n.kids→WfN k):WfN n
theorem WfN.shape {n:Nd} (h:WfN n):shp n.op n.kids.length=some (n.kids.map fun k=>kd k.op):=by cases h;assumption
theorem WfN.num {n:Nd} (h:WfN n):n.op=2→1≤n.n∧n.n≤3:=by cases h;assumption
theorem WfN.kid {n k:Nd} (h:WfN n) (hk:k∈n.kids):WfN k:=by
 cases h with
 |mk _ _ _ h=>exact h k hk
theorem ku {op:Int} {nk:Nat} {l:List Int} (h:shp op nk=some l):l.length≤401:=by
 unfold shp at h
 repeat' (split at h)
 all_goals try cases h
 all_goals try simp
 all_goals try omega
theorem WfN.len {n:Nd} (h:WfN n):n.kids.length≤401:=by
 have:=ku h.shape;simpa using this
theorem WfN.small {n:Nd} (h:WfN n):Small n:=by
 induction h with
 |mk n hs hn hk ih=>exact .mk n (by have:=ku hs;simp at this;omega) ih
structure okKd (ns:Nat) (k:Kd):Prop where
 ar:1≤k.ar∧k.ar≤3
 nd:k.ts.Nodup
 ts:∀ t,t∈k.ts→∃ l,t=pad l∧(l.length:Int)=k.ar∧∀ x,x∈l→0≤x∧x<ns
theorem okKd.okK {ns:Nat} {k:Kd} (h:okKd ns k):okK k:=⟨h.ar,fun t ht=>by obtain ⟨l,rfl,_⟩:=h.ts t ht;rfl,h.nd⟩
theorem okKd.ok2 {ns:Nat} {k:Kd} (h:okKd ns k) (hns:ns≤4) (h2:k.ar=2):ok2 k:=⟨h2,h.nd,fun t ht=>by
 obtain ⟨l,rfl,hl,hr⟩:=h.ts t ht;rw [h2] at hl
 match l,hl with
 | [x,y],_ =>
  have h1:=hr x (by simp);have h2:=hr y (by simp);exact ⟨x,y,rfl,by omega,by omega,by omega,by omega⟩⟩
theorem okKd.of2 {ns:Nat} {k:Kd} (h2:k.ar=2) (hnd:k.ts.Nodup) (h:∀ t,t∈k.ts→∃ x y:Int,t=[x,y,0]∧0≤x∧x<ns∧0≤y∧y<ns):okKd ns k:=⟨by omega,hnd,fun t ht=>by
 obtain ⟨x,y,rfl,h1,h3,h4,h5⟩:=h t ht;exact ⟨[x,y],rfl,by rw [h2];rfl,fun z hz=>by simp at hz;rcases hz with rfl | rfl<;>omega⟩⟩
theorem okKd.pairs {ns:Nat} {k:Kd} (h:okKd ns k) (h2:k.ar=2):∀ t,t∈k.ts→∃ x y:Int,t=[x,y,0]∧0≤x∧x<ns∧0≤y∧y<ns:=fun t ht=>by
 obtain ⟨l,rfl,hl,hr⟩:=h.ts t ht;rw [h2] at hl
 match l,hl with
 | [x,y],_ =>
  have h1:=hr x (by simp);have h2:=hr y (by simp);exact ⟨x,y,rfl,h1.1,h1.2,h2.1,h2.2⟩
theorem J9 {ns:Nat} {l:List Int} (h1:1≤l.length) (h3:l.length≤3) (hr:∀ x,x∈l→0≤x∧x<ns):okKd ns (kOf l):=
 ⟨by simp only [kOf];omega,by simp [kOf],fun t ht=>by
  have ht:t∈[pad l]:=ht;rw [zj] at ht;exact ⟨l,ht,rfl,hr⟩⟩
theorem qcY {ns:Nat} {n:Int} (h:1≤n∧n≤3):okKd ns ⟨n,[]⟩:=⟨h,by simp,fun t ht=>by simp at ht⟩
theorem Wk (ns ar:Nat) (h1:1≤ar) (h3:ar≤3):okKd ns (zH ns ar):=by
 refine ⟨by simp only [zH];omega,?_,fun t ht=>?_⟩
 ·refine List.pairwise_map.2 ((List.pairwise_iff_getElem.2 fun i j hi hj hij=>?_))
  simp only [List.getElem_range];obtain ⟨a,rfl⟩:∃ a,ar=a+1:=⟨ar-1,by omega⟩;intro e;simp [pad,List.replicate_succ] at e;omega
 ·have ht:t∈(List.range ns).map fun (i:Nat)=>pad (List.replicate ar (i:Int)):=ht
  obtain ⟨i,hi,rfl⟩:=qE.1 ht;rw [List.mem_range] at hi;exact ⟨_,rfl,by simp [zH],fun x hx=>by rw [List.eq_of_mem_replicate hx];omega⟩
theorem Yq {ns:Nat} {a b:Kd} (ha:okKd ns a) (hb:okKd ns b) (h:a.ar=b.ar):okKd ns (kSum a b):=by
 refine ⟨ha.ar,ux (ux (by simp)),fun t ht=>?_⟩;have ht:t∈uni (uni [] a.ts) b.ts:=ht;simp only [vr,zb,false_or] at ht;rcases ht with ht | ht
 ·exact ha.ts t ht
 ·obtain ⟨l,e,hl,hr⟩:=hb.ts t ht
  exact ⟨l,e,by rw [hl,←h];rfl,hr⟩
theorem qcZ {ns:Nat} {a b:Kd} (ha:okKd ns a):okKd ns (UT a b):=
 ⟨ha.ar,ha.nd.filter _,fun t ht=>ha.ts t (List.mem_filter.1 ht).1⟩
theorem qc0 {ns:Nat} {op:Int} {a b:Kd} (ha:okKd ns a) (hb:okKd ns b) (h:a.ar=b.ar):okKd ns (uS op a b):=by
 unfold uS;split
 ·exact Yq ha hb h
 ·split
  ·exact qcZ ha
  ·exact ha
theorem uW {l:List Int} (h:l.length≤3) (k:Nat) (hk:k≤l.length):(pad l).take k=l.take k:=by
 match l,h with
 | [],_=>simp at hk;subst hk;rfl
 | [a],_=>match k,hk with
  | 0,_=>rfl
  | 1,_=>rfl
 | [a,b],_=>match k,hk with
  | 0,_=>rfl
  | 1,_=>rfl
  | 2,_=>rfl
 | [a,b,c],_=>match k,hk with
  | 0,_=>rfl
  | 1,_=>rfl
  | 2,_=>rfl
  | 3,_=>rfl
theorem Yr {lx ly:List Int} (hx:lx.length≤3) (hy:ly.length≤3) (s:Nat):conc (pad lx) lx.length (pad ly) ly.length s=pad (lx.take (lx.length-s)++ly.drop s):=by
 unfold conc;rw [uW hx _ (by omega),uW hy _ (qB _),jC]
theorem Ys {ns:Nat} {a b:Kd} (ha:okKd ns a) (hb:okKd ns b) (h1:1≤a.ar+b.ar-2) (h3:a.ar+b.ar-2≤3):okKd ns (zO a b):=by
 refine ⟨⟨h1,h3⟩,UY,fun t ht=>?_⟩;obtain ⟨x,y,⟨hx,hy⟩,hf⟩:=uU.1 ht;obtain ⟨lx,rfl,hlx,hrx⟩:=ha.ts x hx;obtain ⟨ly,rfl,hly,hry⟩:=hb.ts y hy;have hax:=ha.ar;have hbx:=hb.ar;unfold wW at hf;split at hf
 ·simp only [Option.some.injEq] at hf
  rw [show a.ar.toNat=lx.length by omega,show b.ar.toNat=ly.length by omega,Yr (by omega) (by omega)] at hf;refine ⟨_,hf.symm,?_,fun z hz=>?_⟩
  ·show ((lx.take (lx.length-1)++ly.drop 1).length:Int)=a.ar+b.ar-2
   simp only [zr,List.length_take,List.length_drop];omega
  ·rcases zh.1 hz with hz | hz
   ·exact hrx z (List.mem_of_mem_take hz)
   ·exact hry z (List.mem_of_mem_drop hz)
 ·exact absurd hf (by simp)
theorem qc1 {ns:Nat} {a b:Kd} (ha:okKd ns a) (hb:okKd ns b) (h3:a.ar+b.ar≤3):okKd ns (wU a b):=by
 have hax:=ha.ar;have hbx:=hb.ar;refine ⟨⟨by simp only [wU];omega,h3⟩,K3,fun t ht=>?_⟩;obtain ⟨x,y,⟨hx,hy⟩,hf⟩:=J7.1 ht;obtain ⟨lx,rfl,hlx,hrx⟩:=ha.ts x hx;obtain ⟨ly,rfl,hly,hry⟩:=hb.ts y hy;unfold uV at hf;simp only [Option.some.injEq] at hf;rw [show a.ar.toNat=lx.length by omega,show b.ar.toNat=ly.length by omega,Yr (by omega) (by omega)] at hf;refine ⟨_,hf.symm,?_,fun z hz=>?_⟩
 ·show ((lx.take (lx.length-0)++ly.drop 0).length:Int)=a.ar+b.ar
  simp only [zr,List.length_take,List.length_drop];omega
 ·rcases zh.1 hz with hz | hz
  ·exact hrx z (List.mem_of_mem_take hz)
  ·exact hry z (List.mem_of_mem_drop hz)
theorem qc2 {ns:Nat} {a:Kd} (ha:okKd ns a) (h2:a.ar=2):okKd ns (kTr a):=by
 refine okKd.of2 rfl (ux (by simp)) (fun t ht=>?_);obtain ⟨x,hx,rfl⟩:=kq.1 ht;obtain ⟨p,q,rfl,h1,h3,h4,h5⟩:=ha.pairs h2 x hx;exact ⟨q,p,rfl,h4,h5,h1,h3⟩
theorem Va {ns:Nat} {a:Kd} (ha:okKd ns a) (h2:a.ar=2):okKd ns (kClo a)∧(kClo a).ar=2:=by
 have:∀(f n:Nat) (a:Kd),okKd ns a→a.ar=2→okKd ns (cloN f n a)∧(cloN f n a).ar=2:=by
  intro f;induction f with
  |zero=>intro n a h h2;exact ⟨h,h2⟩
  |succ f ih =>
   intro n a h h2;unfold cloN;split
   ·exact ih _ _ (Yq h (Ys h h (by omega) (by omega)) (by simp only [zO];omega)) h2
   ·exact ⟨h,h2⟩
 exact this 70 0 a ha h2
theorem qc3 {ns:Nat} {op:Int} {a:Kd} (ha:okKd ns a) (h2:a.ar=2):okKd ns (binK ns op a):=by
 unfold binK;split
 ·exact (Va ha h2).1
 ·split
  ·exact Yq (Va ha h2).1 (Wk ns 2 (by omega) (by omega)) (by rw [(Va ha h2).2];rfl)
  ·exact qc2 ha h2
def ScOk (ns:Nat) (s:Scp):Prop:=∀ v,v∈s→okKd ns v.2∧v.2.ar=1
theorem kv {nm:ByteArray}:∀{s:Scp} {v:ByteArray×Kd} {r:Scp},ji nm s=v :: r→v∈s
 | [],v,r,h=>by simp [ji] at h
 |w :: s,v,r,h=>by
  unfold ji at h;split at h
  ·cases h;exact zG
  ·exact zt _ (kv h)
theorem qc4 {ts:TS} (h:okTS ts) {nm:ByteArray} {k:Kd} (hk:k∈ya ts nm):okKd ts.sorts.length k:=by
 unfold ya at hk;rcases zh.1 hk with hk | hk
 ·unfold yz at hk
  obtain ⟨f,hf,e⟩:=List.mem_filterMap.1 hk;split at e
  ·cases e
   have:=h.fl f hf;exact J9 this.1 this.2.1 this.2.2
  ·exact absurd e (by simp)
 ·have:∀(so:List (ByteArray×Bool)) (i:Nat),i+so.length≤ts.sorts.length→∀ k,k∈yA i so nm→okKd ts.sorts.length k:=by
   intro so;induction so with
   |nil=>intro i _ k hk;simp [yA] at hk
   |cons s so ih =>
    intro i hi k hk;simp only [List.length_cons] at hi;have h1:okKd ts.sorts.length (kOf [(i:Int)]):=J9 (by simp) (by simp) (fun x hx=>by simp at hx;subst hx;omega);have h2:okKd ts.sorts.length (kOf [(i:Int),(i:Int)]):=J9 (by simp) (by simp) (fun x hx=>by simp at hx;subst hx;omega);simp only [yA,vM,zh] at hk;rcases hk with (hk | hk | hk) | hk
    ·split at hk<;>simp at hk;subst hk;exact h1
    ·split at hk<;>simp at hk;subst hk;exact h1
    ·split at hk<;>simp at hk;subst hk;exact h2
    ·exact ih (i+1) (by omega) k hk
  exact this ts.sorts 0 (by omega) k hk
theorem vA (c:Ck) (s:Scp) (inn:Bool) (n:Nd):exam c s inn n =
  if (inn&&yO c n.op n.name)=true then .error (46,n.pos)
  else if n.op=1 then jj c s n.name n.pos
  else if n.op=47 then
   if (c.ts.preds.any fun p=>decide (p.name=n.name))=true then
    match zJ c n.name with
    |none => .error (45,n.pos)
    |some p=>match c.ts.preds[p]? with
     |none => .error (45,n.pos)
     |some pd=>if pd.params.length=n.kids.length then yc c s n.pos pd.params n.kids else .error (45,n.pos)
   else .error (40,n.pos)
  else if n.op=15∨n.op=45∨n.op=46 then yU c s (inn||decide (n.op=15)) n.name n.pos n.kids
  else match zB c s (inn||decide (n.op=12)||decide (n.op=13)) n.kids with
   | .error e => .error e
   | .ok l=>yB c.ts.sorts.length n.op n.n n.pos l:=by
 obtain ⟨op,nm,k,ks,pos⟩:=n;simp only [exam,Nd.op,Nd.name,Nd.n,Nd.kids,Nd.pos];rfl
theorem Vb {c:Ck} {s:Scp} {inn:Bool}:∀{ks:List Nd} {l:List (Option Kd)},zB c s inn ks = .ok l→l.length=ks.length∧∀(i:Nat) k a,ks[i]?=some k→l[i]?=some a→exam c s inn k = .ok a
 | [],l,h=>by simp only [zB,Except.ok.injEq] at h;subst h;simp
 |k :: ks,l,h=>by
  simp only [zB] at h;cases hk:exam c s inn k with
  |error e=>rw [hk] at h;exact absurd h (by simp)
  |ok a =>
   rw [hk] at h;simp only at h;cases hl:zB c s inn ks with
   |error e=>rw [hl] at h;exact absurd h (by simp)
   |ok r =>
    rw [hl] at h;simp only [Except.ok.injEq] at h;subst h;obtain ⟨h1,h2⟩:=Vb hl;refine ⟨by simp [h1],fun i k' a' hi ha=>?_⟩;cases i with
    |zero=>simp at hi ha;subst hi;subst ha;exact hk
    |succ i=>exact h2 i k' a' (by simpa using hi) (by simpa using ha)
theorem qc5 {op:Int} (h:1≤op∧op≤15):kd op=101:=by unfold kd;rw [if_pos h]
theorem Wl {op:Int} (h:kd op=101):1≤op∧op≤15:=by
 unfold kd at h;split at h
 ·assumption
 ·split at h
  ·exact absurd h (by omega)
  ·split at h<;>exact absurd h (by omega)
theorem Wm {ns:Nat} (hns:ns≤4) {n:Nd} (hw:WfN n) {l:List (Option Kd)} (hl:l.length=n.kids.length) (h:∀(i:Nat) k a,n.kids[i]?=some k→l[i]?=some a→kd k.op=101→∃ q,a=some q∧okKd ns q) :
  ApOk n.op l∧(n.op=5→∃ a,l=[some a]∧okKd ns a)∧(n.op=11∨n.op=12∨n.op=13→∃ a,l=[some a]∧okKd ns a)∧(n.op=6∨n.op=14∨n.op=7∨n.op=8∨n.op=32∨n.op=33∨n.op=9∨n.op=10→∃ a b,l=[some a,some b]∧okKd ns a∧okKd ns b):=by
 have hs:=hw.shape;have h1:n.op=5∨n.op=11∨n.op=12∨n.op=13→∃ a,l=[some a]∧okKd ns a:=by
  intro ho;have e:shp n.op n.kids.length=some [101]:=by
   unfold shp;rw [if_neg (by omega),if_pos (by omega)]
  rw [e] at hs;simp only [Option.some.injEq] at hs
  match hk:n.kids,hs with
  | [k],hs =>
   simp at hs;rw [hk] at hl
   match l,hl with
   | [a],_ =>
    obtain ⟨q,rfl,hq⟩:=h 0 k a (by rw [hk];rfl) rfl hs.symm;exact ⟨q,rfl,hq⟩
  | [],hs=>simp at hs
  |_ :: _ :: _,hs=>simp at hs
 have h2:n.op=6∨n.op=14∨n.op=7∨n.op=8∨n.op=32∨n.op=33∨n.op=9∨n.op=10→∃ a b,l=[some a,some b]∧okKd ns a∧okKd ns b:=by
  intro ho;have e:shp n.op n.kids.length=some [101,101]:=by
   unfold shp;rw [if_neg (by omega),if_neg (by omega),if_pos (by omega)]
  rw [e] at hs;simp only [Option.some.injEq] at hs
  match hk:n.kids,hs with
  | [k,k'],hs =>
   simp at hs;rw [hk] at hl
   match l,hl with
   | [a,b],_ =>
    obtain ⟨q,rfl,hq⟩:=h 0 k a (by rw [hk];rfl) rfl hs.1.symm;obtain ⟨q',rfl,hq'⟩:=h 1 k' b (by rw [hk];rfl) rfl hs.2.symm;exact ⟨q,q',rfl,hq,hq'⟩
  | [],hs=>simp at hs
  | [_],hs=>simp at hs
  |_ :: _ :: _ :: _,hs=>simp at hs
 refine ⟨⟨fun ho=>?_,fun ho=>?_,fun ho=>?_⟩,fun ho=>h1 (.inl ho),fun ho=>h1 (.inr ho),h2⟩
 ·obtain ⟨a,rfl,_⟩:=h1 (.inl ho);exact ⟨_,rfl⟩
 ·obtain ⟨a,rfl,ha⟩:=h1 (.inr ho);exact ⟨a,rfl,ha.okK,ha.ok2 hns⟩
 ·obtain ⟨a,b,rfl,ha,hb⟩:=h2 ho;exact ⟨a,b,rfl,ha.okK,hb.okK⟩
theorem vR {c:Ck} (hc:okCk c):∀(m:Nat) (n:Nd) (s:Scp) (inn:Bool) (ko:Option Kd),szN n≤m→WfN n→ScOk c.ts.sorts.length s→exam c s inn n = .ok ko→kd n.op=101→∃ k,ko=some k∧okKd c.ts.sorts.length k
 | 0,n,_,_,_,hm,_,_,_,_=>by obtain ⟨op,nm,i,ks,p⟩:=n;simp [szN] at hm
 |m+1,n,s,inn,ko,hm,hw,hs,h,hop=>by
  have ho:=Wl hop;have hns:=hc.ts.ns;rw [vA] at h;split at h
  ·exact absurd h (by simp)
  split at h
  ·unfold jj at h
   split at h
   ·rename_i v r hf
    simp only [Except.ok.injEq] at h;exact ⟨v.2,h.symm,(hs v (kv hf)).1⟩
   ·split at h
    ·exact absurd h (by simp)
    ·rename_i k hk
     simp only [Except.ok.injEq] at h;exact ⟨k,h.symm,qc4 hc.ts (by rw [hk];simp)⟩
    ·exact absurd h (by simp)
  split at h
  ·omega
  split at h
  ·rename_i hb
   have hsh:=hw.shape;have e:shp n.op n.kids.length=some [101,102]:=by
    unfold shp;rw [if_neg (by omega),if_neg (by omega),if_neg (by omega),if_pos (by omega)]
   rw [e] at hsh;simp only [Option.some.injEq] at hsh
   match hk:n.kids,hsh with
   | [a,f],hsh =>
    simp at hsh;rw [hk] at h;simp only [yU] at h;cases hq:exam c s (inn||decide (n.op=15)) a with
    |error e=>rw [hq] at h;exact absurd h (by simp)
    |ok q =>
     obtain ⟨k,rfl,hkk⟩:=vR hc m a s _ q (by have:=yu (n:=n) (k:=a) (by rw [hk];simp);omega) (hw.kid (by rw [hk];simp)) hs hq hsh.1.symm;rw [hq] at h;simp only at h;split at h
     ·split at h
      ·exact absurd h (by simp)
      ·simp only [Except.ok.injEq] at h
       exact ⟨k,h.symm,hkk⟩
     ·exact absurd h (by simp)
   | [],hsh=>simp at hsh
   | [_],hsh=>simp at hsh
   |_ :: _ :: _ :: _,hsh=>simp at hsh
  ·rename_i n1 n47 nb
   cases hl:zB c s (inn||decide (n.op=12)||decide (n.op=13)) n.kids with
   |error e=>rw [hl] at h;exact absurd h (by simp)
   |ok l =>
    rw [hl] at h;simp only at h;obtain ⟨hlen,hex⟩:=Vb hl;obtain ⟨_,a5,a1,a2⟩:=Wm (ns:=c.ts.sorts.length) hns hw hlen (fun i k a hi ha hkd=>vR hc m k s _ a (by have:=yu (n:=n) (ze hi);omega) (hw.kid (ze hi)) hs (hex i k a hi ha) hkd);unfold yB at h;split at h
    ·rename_i h2
     simp only [Except.ok.injEq] at h;exact ⟨_,h.symm,qcY (hw.num h2)⟩
    split at h
    ·simp only [Except.ok.injEq] at h
     exact ⟨_,h.symm,Wk _ 1 (by omega) (by omega)⟩
    split at h
    ·simp only [Except.ok.injEq] at h
     exact ⟨_,h.symm,Wk _ 2 (by omega) (by omega)⟩
    have hcase:n.op=5∨(n.op=11∨n.op=12∨n.op=13)∨(n.op=6∨n.op=14∨n.op=7∨n.op=8∨n.op=32∨n.op=33∨n.op=9∨n.op=10):=by omega
    rcases hcase with h5 | h1 | h2
    ·obtain ⟨a,rfl,ha⟩:=a5 h5
     simp only [if_pos h5,Except.ok.injEq] at h;exact ⟨a,h.symm,ha⟩
    ·obtain ⟨a,rfl,ha⟩:=a1 h1
     have n5:n.op≠5:=by omega
     simp only [if_neg n5,if_pos h1] at h;split at h
     ·simp only [Except.ok.injEq] at h
      exact ⟨_,h.symm,qc3 ha (by assumption)⟩
     ·exact absurd h (by simp)
    ·obtain ⟨a,b,rfl,ha,hb⟩:=a2 h2
     simp only at h;split at h
     ·split at h
      ·simp only [Except.ok.injEq] at h
       exact ⟨_,h.symm,qc0 ha hb (by assumption)⟩
      ·exact absurd h (by simp)
     ·split at h
      ·split at h
       ·rename_i hj
        simp only [Except.ok.injEq] at h;exact ⟨_,h.symm,Ys ha hb hj.1 hj.2⟩
       ·exact absurd h (by simp)
      ·split at h
       ·split at h
        ·simp only [Except.ok.injEq] at h
         exact ⟨_,h.symm,qc1 ha hb (by assumption)⟩
        ·exact absurd h (by simp)
       ·omega
end Go.Proofs.YtcfopdccdeeleaaGreatDoor.P2


namespace Go.Proofs.YtcfopdccdeeleaaGreatDoor.Y13
open Go Go.Ev Go.Proofs Y1 Y2 Y3 Y4 P1 YM Y5 Y6 Y7 Y8 YS YF Y9 Y10 Y11 Y12 P2
theorem qc6 (p:Pd) (n:Nd):qt Tryz.prog 129 [.agg (cPd p),.ip (cNd n)] (aB (decide (p.name=n.name))):=by
 refine qSQ Tryz.call129 Tryz.func129 rfl {} ?_;simp [go_sem,Qf];exact .hf _ (HF.sc _)
def ub (c:Ck) (s:Scp) (n:Nd):Res:=
 if (c.ts.preds.any fun p=>decide (p.name=n.name))=true then
  match zJ c n.name with
  |none => .error (45,n.pos)
  |some p=>match c.ts.preds[p]? with
   |none => .error (45,n.pos)
   |some pd=>if pd.params.length=n.kids.length then yc c s n.pos pd.params n.kids else .error (45,n.pos)
 else .error (40,n.pos)
def endC:Res→AEnd
 | .ok _ => .ret (.tup [])
 | .error e => .pan (jq e.1 e.2)
@[go_sem] theorem endC_ok (k:Option Kd):endC (.ok k) = .ret (.tup []):=rfl
@[go_sem] theorem qlB (e:Dg):endC (.error e) = .pan (jq e.1 e.2):=rfl
theorem Yt (n:Nd):HF (.ip (cNd n)):=HF.ip (jb n)
theorem hf_t0:HF (.tup []):=HF.tup (by simp)
theorem callU (c:Ck) (hc:okCk c) (s:Scp) (hs:ScOk c.ts.sorts.length s) (n:Nd) (hw:WfN n) (hop:n.op=47)
  (ih:∀ k,k∈n.kids→jV Tryz.prog 42 [eCk c,aSc s,eNd k,aB true] (endK (exam c s true k))) :
  jV Tryz.prog 86 [eCk c,aSc s,eNd n] (endC (ub c s n)):=by
 refine vb.of_sound ?_;refine qSW Tryz.call86 Tryz.func86 rfl {} ?_;have hnp:=hc.ts.np;have hkl:=hw.len;have hany:=K7 false c.ts.preds (.fn (.func 129) [] [.ip (cNd n)]) (fun p=>decide (p.name=n.name)) ⟨_,_,_,rfl,fun p hp=>⟨_,qc6 p n,.cons (.hf (HF.agg (uy p))) (.cons (.hf (Yt n)) .nil)⟩⟩ (HF.fn (by simp) (fun x hx=>by simp at hx;subst hx;exact Yt n)) (ua _) (by omega);have hwk:WKs [lPd c.ts.preds,.fn (.func 129) [] [.ip (cNd n)]] [lPd c.ts.preds,.fn (.func 129) [] [.ip (cNd n)]] := .cons (.hf (ua _)) (.cons (.hf (HF.fn (by simp) (fun x hx=>by simp at hx;subst hx;exact Yt n))) .nil);generalize hR:ub c s n=R;unfold ub at hR;simp [go_sem];cases hA:c.ts.preds.any (fun p=>decide (p.name=n.name)) with
 |false =>
  rw [hA] at hany hR;subst hR;refine qx.tail 8 (by kernel_rfl) ?_;simp [go_sem];refine qc.pure hany hwk ?_;simp [go_sem];refine qc.pans (zN false 40 n) (wkR n false 40) ?_;simp [go_sem];exact .hf _ (yr _ _)
 |true =>
  rw [hA] at hany hR;rw [if_pos rfl] at hR;refine qx.intro (by kernel_rfl) ?_;simp [go_sem];refine qc.pure hany hwk ?_;simp [go_sem];refine qc.pure (zN true 40 n).toP (wkR n true 40) ?_;simp [go_sem];refine qc.pure (K8 c hc n.name) (.cons (.hf (yV c)) (.cons (.hf (HF.sc _)) .nil)) ?_;cases hcal:zJ c n.name with
  |none =>
   rw [hcal] at hR;subst hR;simp [go_sem];refine qx.tail 19 (by kernel_rfl) ?_;simp [go_sem];refine qc.pans (zN false 45 n) (wkR n false 45) ?_;simp [go_sem];exact .hf _ (yr _ _)
  |some p =>
   obtain ⟨hp1,hp2⟩:=Qd hc hcal;have hpd:=hc.ts.pl _ (qJ hp2);rw [hcal] at hR;simp only [qX hp2] at hR;simp [go_sem];generalize hpp:c.ts.preds[p]=pd at *
   by_cases hpl:pd.params.length=n.kids.length
   ·rw [if_pos hpl] at hR
    refine qx.intro (by kernel_rfl) ?_;simp [go_sem,hp2,hpp,hpl];refine qc.pure (zN true 45 n).toP (wkR n true 45) ?_;simp [go_sem,hp2,hpp,hpl];have hsh:=hw.shape;have hkd:∀(k:Nat) (h:k<n.kids.length),kd n.kids[k].op=101:=by
     have e:shp n.op n.kids.length=some (List.replicate (min n.kids.length 401) 101):=by
      unfold shp;rw [if_neg (by omega),if_neg (by omega),if_neg (by omega),if_neg (by omega),if_neg (by omega),if_neg (by omega),if_neg (by omega),if_pos hop]
     rw [e] at hsh;simp only [Option.some.injEq] at hsh;intro k h;have h2:(n.kids.map fun k=>kd k.op)[k]?=some (kd n.kids[k].op):=by rw [zM,qX h];rfl
     rw [←hsh,List.getElem?_replicate] at h2;split at h2
     ·simpa using h2.symm
     ·exact absurd h2 (by simp)
    refine qD.upK pd.params.length (fun k st=>st.tm 0=eCk c∧st.tm 1=aSc s∧st.tm 5 = .ip (cNd n)∧st.tm 54=lPm pd.params∧st.tm 55=aI n.kids.length∧st.tm 56=aI k∧yc c s n.pos (pd.params.drop k) (n.kids.drop k)=R) ?_ ?_
    ·exact ⟨by simp [go_sem],by simp [go_sem],by simp [go_sem],by simp [go_sem],by simp [go_sem],by simp [go_sem],by simpa using hR⟩
    ·rintro k st hk ⟨e0,e1,e5,e54,e55,e56,hE⟩
     by_cases hkl':k=pd.params.length
     ·subst hkl'
      rw [List.drop_length,hpl,List.drop_length] at hE;simp only [yc] at hE;subst hE;simp [go_sem,e0,e1,e5,e54,e55,e56,hpl];exact .hf _ hf_t0
     ·have hlt:k<pd.params.length:=by omega
      have hlt2:k<n.kids.length:=by omega
      have w1:IntKind.i64.wrap ((k:Int)+1)=(k:Int)+1:=qy (by omega) (by omega);have hi:=ih n.kids[k] (qJ hlt2);rw [zA hlt,zA hlt2] at hE;simp only [yc] at hE;have hok:=vR hc (szN n.kids[k]) n.kids[k] s true;have hkk:=hkd k hlt2;have hwk':=hw.kid (qJ hlt2);simp [go_sem,e0,e1,e5,e54,e55,e56,hlt,hlt2,qr];cases hx:exam c s true n.kids[k] with
      |error e =>
       rw [hx] at hi hE;subst hE;refine qc.pans hi (.cons (.hf (yV c)) (.cons (.hf (uw s)) (.cons (.hf (qO _)) (.cons (.hf (HF.sc _)) .nil)))) ?_;simp [go_sem];exact .hf _ (yr _ _)
      |ok ko =>
       obtain ⟨kk,rfl,hkk2⟩:=hok ko (qB _) hwk' hs hx hkk;rw [hx] at hi hE;simp only at hE;refine qc.pure hi.toP (.cons (.hf (yV c)) (.cons (.hf (uw s)) (.cons (.hf (qO _)) (.cons (.hf (HF.sc _)) .nil)))) ?_;by_cases har:kk.ar=1
       ·rw [if_pos har] at hE
        simp [go_sem,e5,har];refine qc.pure (zN true 42 n).toP (wkR n true 42) ?_;simp [go_sem,e0,e1,e5,e54,e55,e56];refine qD.seen kk.ts.length (fun seen st'=>st'.tm 0=eCk c∧st'.tm 1=aSc s∧st'.tm 5 = .ip (cNd n)∧st'.tm 54=lPm pd.params∧st'.tm 55=aI n.kids.length∧st'.tm 56=aI k∧st'.tm 9 = .ptr st.mu.length 0∧st'.tm 76 = .ptr (st.mu.length+2) 0 ∧
         st'.mu[st.mu.length]?=some (.arr [aS pd.params[k].1,aI pd.params[k].2])∧st'.mu[st.mu.length+2]?=some (.it (eT kk.ts) seen)∧∀ i t,i∈seen→kk.ts[i]?=some t→t.getD 0 0=pd.params[k].2) ?_ ?_
        ·refine ⟨by simp [go_sem,e0],by simp [go_sem,e1],by simp [go_sem,e5],by simp [go_sem,e54],by simp [go_sem,e55],by simp [go_sem,e56],by simp [go_sem],by simp [go_sem],?_,?_,by simp⟩
         ·simp [go_sem]
         ·simp [go_sem]
        ·rintro seen st' hnd hlt' ⟨f0,f1,f5,f54,f55,f56,f9,f76,g0,g2,hall⟩
         simp [go_sem,f0,f1,f5,f54,f55,f56,f9,f76];refine ⟨st.mu.length+2,eT kk.ts,seen,rfl,g2,fun i e hi hns=>?_,fun hdone=>?_⟩
         ·obtain ⟨x,hx2,rfl⟩:=wq hi
          have hxo:okT x:=hkk2.okK.len x (ze hx2);have hil:i<kk.ts.length:=(qv.1 hx2).1;have hx3:x.length=3:=hxo;have hxl:x∈kk.ts:=ze hx2;have hlen:st.mu.length+2<st'.mu.length:=(qv.1 g2).1;have hget:∀(c:Cell) (l:List Cell),((st'.mu.set (st.mu.length+2) c)++l)[st.mu.length]?=some (.arr [aS pd.params[k].1,aI pd.params[k].2]):=fun c l=>by
           rw [qz (by simp;omega),qL (by omega)];exact g0
          obtain ⟨x0,x1,x2,rfl⟩:∃ x0 x1 x2,x=[x0,x1,x2]:=by
           match x,hx3 with
           | [x0,x1,x2],_=>exact ⟨_,_,_,rfl⟩
          have hrange:0≤x0∧x0<128:=by
           obtain ⟨l,el,hl,hr⟩:=hkk2.ts _ hxl;rw [har] at hl
           match l,hl with
           | [y],_ =>
            have:=hr y (by simp);simp [pad] at el;have:=hc.ts.ns;omega
          have w8:IntKind.i64.wrap x0=x0:=qy (by omega) (by omega);by_cases hq:x0=pd.params[k].2
          ·have w9:IntKind.i64.wrap pd.params[k].2=pd.params[k].2:=by rw [←hq];exact w8
           simp [go_sem,f0,f1,f5,f54,f55,f56,f9,f76,hi,hlen,hns,g2,hget,w8,w9,hq];refine qc.pure (zN true 43 n).toP (wkR n true 43) ?_;simp [go_sem];refine ⟨i,hil,hns,by simp [go_sem,f0],by simp [go_sem,f1],by simp [go_sem,f5],by simp [go_sem,f54],by simp [go_sem,f55],by simp [go_sem,f56],by simp [go_sem,f9],by simp [go_sem,f76],?_,?_,?_⟩
           ·simp only [qT]
            exact hget _ _
           ·simp only [qT]
            rw [qz (by simpa using hlen),zd hlen]
           ·intro j t hj ht
            rcases zh.1 hj with hj | hj
            ·exact hall j t hj ht
            ·rw [zj] at hj;subst hj
             rw [hx2] at ht;cases ht;exact hq
          ·have hbad:v8 pd.params[k].2 kk=false:=by
            unfold v8;rw [←Bool.not_eq_true,List.all_eq_true];intro h;have:=h _ hxl;simp at this;exact hq this
           rw [hbad] at hE;simp only [Bool.false_eq_true,if_false] at hE;subst hE;simp [go_sem,f0,f1,f5,f54,f55,f56,f9,f76,hi,hlen,hns,g2,hget,w8,hq];refine qc.pans (zN false 43 n) (wkR n false 43) ?_;simp [go_sem];exact .hf _ (yr _ _)
         ·have hgood:v8 pd.params[k].2 kk=true:=by
           unfold v8;rw [List.all_eq_true];intro t ht;obtain ⟨j,hj⟩:=List.mem_iff_getElem?.1 ht;simpa using hall j t (hdone j (by simpa using (qv.1 hj).1)) hj
          rw [if_pos hgood] at hE;simp [go_sem,f0,f1,f5,f54,f55,f56,f9,f76,hlt,w1,hlt2];refine Keep.mk' ?_;refine ⟨by simp [go_sem,f0],by simp [go_sem,f1],by simp [go_sem,f5],by simp [go_sem,f54],by simp [go_sem,f55],by simp [go_sem],hE⟩
       ·rw [if_neg har] at hE
        subst hE;simp [go_sem,e5,har];refine qc.pans (zN false 42 n) (wkR n false 42) ?_;simp [go_sem];exact .hf _ (yr _ _)
   ·rw [if_neg hpl] at hR
    subst hR;refine qx.tail 19 (by kernel_rfl) ?_;simp [go_sem,hp2,hpp,hpl];refine qc.pans (zN false 45 n) (wkR n false 45) ?_;simp [go_sem];exact .hf _ (yr _ _)
theorem Vc {lo sz:Nat} {mu:Mu} {av:AV} {xs:List (List AV)} (h:OwnF lo mu sz av xs) (w:yD sz xs) (hf:∀ r,r∈xs→∀ c,c∈r→HF c):Rd (cutM (fun i=>decide (lo≤i)) mu 0) av (.lst false xs):=by
 obtain ⟨ho,hb,hl⟩:=h;refine Own.rd (sz:=sz) ?_ w hf;rcases ho with rfl | ⟨b,rfl,hc⟩
 ·exact .inl rfl
 ·refine .inr ⟨b,rfl,?_⟩
  rw [vg,hc];simp [hb b _ _ _ rfl]
theorem qc7 {c:Ck} {s:Scp} {n:Nd} {ko:Option Kd} (h:ub c s n = .ok ko):ko=none:=by
 have hA:∀(ks:List Nd) (ps:List (ByteArray×Int)) (ko:Option Kd),yc c s n.pos ps ks = .ok ko→ko=none:=by
  intro ks;induction ks with
  |nil=>intro ps ko h;cases ps<;>simp [yc] at h<;>exact h.symm
  |cons k ks ih =>
   intro ps ko h;cases ps with
   |nil=>simp [yc] at h;exact h.symm
   |cons p ps =>
    simp only [yc] at h;split at h
    ·exact absurd h (by simp)
    ·exact absurd h (by simp)
    ·split at h
     ·split at h
      ·exact ih _ _ h
      ·exact absurd h (by simp)
     ·exact absurd h (by simp)
 unfold ub at h;split at h
 ·split at h
  ·exact absurd h (by simp)
  ·split at h
   ·exact absurd h (by simp)
   ·split at h
    ·exact hA _ _ _ h
    ·exact absurd h (by simp)
 ·exact absurd h (by simp)
theorem appKo {mu:Mu} {lo:Nat} {s:AV} {xs:List (Option Kd)} {k:Option Kd} {K:AV→Mu→Prop} (ho:OwnF lo mu 2 s (xs.map cKo)) (hl:xs.length≤100000) (kk:∀ av mu',OwnF lo mu' 2 av ((xs++[k]).map cKo)→(∀ i,i<lo→mu'[i]?=mu[i]?)→K av mu') :
  zo Tryz.prog mu #[149,149] s (.lst true [cKo k]) K:=by
 have hrows:∀ l:List (Option Kd),zC 2 (l.map cKo):=fun l r hr=>by
  obtain ⟨n,_,rfl⟩:=qE.1 hr;exact Wg n
 refine zo.ownF (lo:=lo) (e:=82) (sz:=2) (bt:=16) (zv := .agg [aI 0,.sc (.map none)]) (xs:=xs.map cKo) (ys:=[cKo k]) (by simp [go_sem]) (by simp [go_sem]) (by simp [go_sem]) rfl rfl (by omega) (by omega) ho (by simp [zf]) (hrows xs) (hrows [k]) (by simp;omega) ?_;intro av mu' h h2;exact kk av mu' (by rw [List.map_append];exact h) h2
theorem Wn (c:Ck) (hc:okCk c):∀(m:Nat) (n:Nd),szN n≤m→WfN n→∀(s:Scp),ScOk c.ts.sorts.length s→∀ inn:Bool,jV Tryz.prog 42 [eCk c,aSc s,eNd n,aB inn] (endK (exam c s inn n))
 | 0,n,hm,_,_,_,_=>by obtain ⟨op,nm,i,ks,p⟩:=n;simp [szN] at hm
 |m+1,n,hm,hw,s,hs,inn=>by
  have ih:∀ k,k∈n.kids→∀ s',ScOk c.ts.sorts.length s'→∀ inn',jV Tryz.prog 42 [eCk c,aSc s',eNd k,aB inn'] (endK (exam c s' inn' k)):=fun k hk s' hs' inn' =>
   Wn c hc m k (by have:=yu hk;omega) (hw.kid hk) s' hs' inn'
  refine vb.of_sound ?_;refine qSW Tryz.call42 Tryz.func42 rfl {} ?_;generalize hE:exam c s inn n=E;rw [vA] at hE;have htm:=K9 c hc n;simp [go_sem];by_cases hT:(inn&&yO c n.op n.name)=true
  ·rw [if_pos hT] at hE
   subst hE;rw [Bool.and_eq_true] at hT;obtain ⟨rfl,hT⟩:=hT;rw [hT] at htm;refine qx.tail 9 (by kernel_rfl) ?_;simp [go_sem];refine qc.pure htm (.cons (.hf (yV c)) (.cons (.hf (qO n)) .nil)) ?_;simp [go_sem];refine qc.pans (zN false 46 n) (wkR n false 46) ?_;simp [go_sem];exact .hf _ (yr _ _)
  rw [if_neg hT] at hE;have hnm:=Wh c hc s n;have hcl:=fun h=>callU c hc s hs n hw h (fun k hk=>ih k hk s hs true)
  have hwc:WKs [eCk c,aSc s,eNd n] [eCk c,aSc s,eNd n] := .cons (.hf (yV c)) (.cons (.hf (uw s)) (.cons (.hf (qO n)) .nil));have hwe:∀(s':Scp) (k:Nd) (b:Bool),WKs [eCk c,aSc s',eNd k,aB b] [eCk c,aSc s',eNd k,aB b]:=fun s' k b => .cons (.hf (yV c)) (.cons (.hf (uw s')) (.cons (.hf (qO k)) (.cons (.hf (HF.sc _)) .nil)))
  have hbinder:n.op=15∨n.op=45∨n.op=46→∃ a f,n.kids=[a,f]∧kd a.op=101:=fun ho=>by
   have hsh:=hw.shape;have e:shp n.op n.kids.length=some [101,102]:=by
    unfold shp;rw [if_neg (by omega),if_neg (by omega),if_neg (by omega),if_pos (by omega)]
   rw [e] at hsh;simp only [Option.some.injEq] at hsh
   match hk:n.kids,hsh with
   | [a,f],hsh=>simp at hsh;exact ⟨a,f,rfl,hsh.1.symm⟩
   | [],hsh=>simp at hsh
   | [_],hsh=>simp at hsh
   |_ :: _ :: _ :: _,hsh=>simp at hsh
  cases inn
  case' false =>
   refine qx.intro (by kernel_rfl) ?_;simp [go_sem];refine qc.pure (zN true 46 n).toP (wkR n true 46) ?_;simp [go_sem]
  case' true =>
   have hT':yO c n.op n.name=false:=by simpa using hT
   rw [hT'] at htm;refine qx.intro (by kernel_rfl) ?_;simp [go_sem];refine qc.pure htm (.cons (.hf (yV c)) (.cons (.hf (qO n)) .nil)) ?_;simp [go_sem];refine qc.pure (zN true 46 n).toP (wkR n true 46) ?_;simp [go_sem]
  all_goals
   by_cases h1:n.op=1
   ·rw [if_pos h1] at hE
    rw [hE] at hnm;simp [go_sem,h1];cases E with
    |error e =>
     refine qc.pans hnm hwc ?_;simp [go_sem];exact .hf _ (yr _ _)
    |ok ko =>
     refine qc.pure hnm.toP hwc ?_;cases ko with
     |none=>simp [go_sem];exact .hf _ hfKn
     |some k=>simp [go_sem];exact .hf _ (hfK2 _ _)
   rw [if_neg h1] at hE;by_cases h47:n.op=47
   ·rw [if_pos h47] at hE
    have hE:ub c s n=E:=hE;have hcl:=hcl h47;rw [hE] at hcl;simp [go_sem,h47];cases E with
    |error e =>
     refine qc.pans hcl hwc ?_;simp [go_sem];exact .hf _ (yr _ _)
    |ok ko =>
     obtain rfl:=qc7 hE;refine qc.pure hcl.toP hwc ?_;simp [go_sem];exact .hf _ hfKn
   rw [if_neg h47] at hE;by_cases hb:n.op=15∨n.op=45∨n.op=46
   ·rw [if_pos hb] at hE
    obtain ⟨a,f,hkk,ha⟩:=hbinder hb;rw [hkk] at hE;have iha:∀ b r,exam c s b a=r→jV Tryz.prog 42 [eCk c,aSc s,eNd a,aB b] (endK r):=fun b r h=>h ▸ ih a (by rw [hkk];simp) s hs b
    have ihf:∀ s',ScOk c.ts.sorts.length s'→∀ b r,exam c s' b f=r→jV Tryz.prog 42 [eCk c,aSc s',eNd f,aB b] (endK r):=fun s' hs' b r h=>h ▸ ih f (by rw [hkk];simp) s' hs' b
    have hoka:=vR hc (szN a) a s;have hwa:=hw.kid (k:=a) (by rw [hkk];simp);rcases hb with h | h | h
    all_goals
     simp [go_sem,h,hkk,qr];simp only [h,yU,zB] at hE;simp at hE;split at hE
     ·rename_i e hx
      have hi:=iha _ _ hx;subst hE;refine qc.pans hi (hwe _ _ _) ?_;simp [go_sem];exact .hf _ (yr _ _)
     ·rename_i hx
      obtain ⟨q,hq,_⟩:=hoka _ _ (qB _) hwa hs hx ha;exact absurd hq (by simp)
     ·rename_i k hx
      have hi:=iha _ _ hx;obtain ⟨q,hq,hqk⟩:=hoka _ _ (qB _) hwa hs hx ha;simp only [Option.some.injEq] at hq;subst hq;refine qc.pure hi.toP (hwe _ _ _) ?_;by_cases har:k.ar=1
      ·rw [if_pos har] at hE
       obtain ⟨ka,kt⟩:=k;obtain rfl:ka=1:=har;simp [go_sem];refine qc.pure (zN true 42 n).toP (wkR n true 42) ?_;simp [go_sem];have hs2:ScOk c.ts.sorts.length ((n.name,⟨1,kt⟩) :: s):=fun v hv=>by
        rcases qK.1 hv with rfl | hv
        ·exact ⟨hqk,rfl⟩
        ·exact hs v hv
       have hi2:=ihf _ hs2;refine qx.tail 12 (by kernel_rfl) ?_;simp [go_sem,h,hkk,qr];split at hE
       ·rename_i e hx2
        split at hx2
        ·rename_i e' hx3
         simp only [Except.error.injEq] at hx2;subst hx2;subst hE;have hi3:=hi2 _ _ hx3;refine qc.pans hi3 (hwe ((n.name,⟨1,kt⟩) :: s) _ _) ?_;simp [go_sem];exact .hf _ (yr _ _)
        ·exact absurd hx2 (by simp)
       ·rename_i l hx2
        split at hx2
        ·exact absurd hx2 (by simp)
        ·rename_i a' hx3
         have hi3:=hi2 _ _ hx3;subst hE;refine qc.pure hi3.toP (hwe ((n.name,⟨1,kt⟩) :: s) _ _) ?_;simp [go_sem];exact .hf _ (hfK2 _ _)
      ·rw [if_neg har] at hE
       subst hE;simp [go_sem,har];refine qc.pans (zN false 42 n) (wkR n false 42) ?_;simp [go_sem];exact .hf _ (yr _ _)
   ·rw [if_neg hb] at hE
    simp only [not_or] at hb;obtain ⟨b1,b2,b3⟩:=hb;simp [go_sem,h1,h47,b1,b2,b3];have hkids:=hw.len;generalize hB:(_||decide (n.op=12)||decide (n.op=13))=B at hE;by_cases h12:n.op=12
    case' pos=>simp [go_sem,h12]
    case' neg =>
     by_cases h13:n.op=13
     case' pos=>simp [go_sem,h12,h13]
     case' neg=>simp [go_sem,h12,h13]
    all_goals
     refine qD.upK n.kids.length (fun k st=>∃ acc:List (Option Kd),acc.length=k∧st.tm 0=eCk c∧st.tm 1=aSc s∧st.tm 3=aB B∧st.tm 6 = .ip (cNd n)∧st.tm 8 = .ptr 0 0∧st.tm 79=lNd n.kids∧st.tm 80=aI n.kids.length∧st.tm 81=aI k∧st.mu[0]?=some (.arr [aI 0,.sc (.map none)])∧OwnF 1 st.mu 2 (st.tm 10) (acc.map cKo) ∧
      zB c s B n.kids=(match zB c s B (n.kids.drop k) with | .error e => .error e | .ok l => .ok (acc++l))) ?_ ?_
     ·refine ⟨[],rfl,by simp [go_sem],by simp [go_sem],?_,by simp [go_sem],by simp [go_sem],by simp [go_sem],by simp [go_sem],by simp [go_sem],by simp [go_sem],?_,?_⟩
      ·rw [←hB];simp [go_sem,h12];try simp [h13]
      ·simp [go_sem];exact OwnF.nil (by simp)
      ·simp only [List.drop_zero,List.nil_append]
       cases zB c s B n.kids<;>rfl
     ·rintro k st hk ⟨acc,hl,e0,e1,e3,e6,e8,e79,e80,e81,m0,ho,hE2⟩
      by_cases hkl':k=n.kids.length
      ·rw [hkl',List.drop_length] at hE2
       simp only [zB,ye] at hE2;rw [hE2] at hE;simp only at hE;simp [go_sem,e0,e1,e3,e6,e8,e79,e80,e81,hkl'];have hap:ApOk n.op acc:=(Wm hc.ts.ns hw (by rw [hl,hkl']) (fun i k' a hi ha hkd=>vR hc (szN k') k' s B a (qB _) (hw.kid (ze hi)) hs ((Vb hE2).2 i k' a hi ha) hkd)).1;have hap2:=qcV c hc false n acc hap;rw [hE] at hap2;have hrf:∀ r,r∈acc.map cKo→∀ c,c∈r→HF c:=fun r hr c hcc=>by
        obtain ⟨q,_,rfl⟩:=qE.1 hr;exact kn q c hcc
       have hrw:yD 2 (acc.map cKo):=fun r hr=>by
        obtain ⟨q,_,rfl⟩:=qE.1 hr;exact (Wg q).1
       have g0:(cutM (fun i=>!decide (1≤i)) st.mu 0)[0]?=some (.arr [aI 0,.sc (.map none)]):=by rw [vg,m0];simp
       refine qc.eff0 (qW.freeze (args1:=[eCk c,eNd n,.lst false (acc.map cKo)]) (fun j=>decide (1≤j)) ⟨.inl rfl,.inl rfl,.inr (Vc ho hrw hrf),trivial⟩ (hap2.toSound _ (.cons (.hf (yV c)) (.cons (.hf (qO n)) (.cons (.hf (HF.lst hrf)) .nil))))) ?_ ?_
       ·rintro r m ⟨hv,rfl⟩
        have hv:AEnd.ret r=endK E:=hv;cases E with
        |error e=>exact absurd hv (by simp [go_sem])
        |ok q =>
         simp [go_sem] at hv;subst hv;generalize cutM (fun i=>!decide (1≤i)) st.mu 0=M at g0;have hmz:0<M.length:=(qv.1 g0).1;have hset:∀ c,(M.set 0 c)[0]?=some c:=fun c=>zd hmz
         cases q with
         |none=>simp [go_sem,e8,g0,hset];exact .hf _ hfKn
         |some k=>simp [go_sem,e8,g0,hset];exact .hf _ (hfK2 _ _)
       ·rintro r m ⟨hv,rfl⟩
        have hv:AEnd.pan r=endK E:=hv;cases E with
        |ok q=>exact absurd hv (by simp [go_sem])
        |error e =>
         simp [go_sem] at hv;subst hv;simp [go_sem];exact .hf _ (yr _ _)
      ·have hlt:k<n.kids.length:=by omega
       have w1:IntKind.i64.wrap ((k:Int)+1)=(k:Int)+1:=qy (by omega) (by omega);rw [zA hlt] at hE2;simp only [zB] at hE2;have hi:=ih n.kids[k] (qJ hlt) s hs B;simp [go_sem,e0,e1,e3,e6,e8,e79,e80,e81,hlt,qr];cases hx:exam c s B n.kids[k] with
       |error e =>
        rw [hx] at hi hE2;simp only at hE2;rw [hE2] at hE;simp only at hE;subst hE;refine qc.pans hi (hwe s n.kids[k] B) ?_;simp [go_sem];exact .hf _ (yr _ _)
       |ok ko =>
        rw [hx] at hi hE2;simp only at hE2;refine qc.pure hi.toP (hwe s n.kids[k] B) ?_;have hko:=Wg ko;rw [List.all_eq_true] at hko;simp [go_sem];rw [if_pos hko];simp [go_sem];refine appKo (xs:=acc) (k:=ko) (lo:=1) ⟨jW ho.1 _,ho.2.1,by have:=ho.2.2;simp⟩ (by omega) fun av mu' ho' hm'=>?_
        simp [go_sem,e0,e1,e3,e6,e8,e79,e80,e81,w1];refine ⟨hlt,Keep.mk' ?_⟩;refine ⟨acc++[ko],by simp [hl],by simp [go_sem,e0],by simp [go_sem,e1],by simp [go_sem,e3],by simp [go_sem,e6],by simp [go_sem,e8],by simp [go_sem,e79],by simp [go_sem,e80],by simp [go_sem],?_,by simpa [go_sem] using ho',?_⟩
        ·simp only [qT]
         rw [hm' 0 (by omega),qz (by have:=ho.2.2;omega)];exact m0
        ·rw [hE2]
         cases zB c s B (n.kids.drop (k+1)) with
         |error e=>rfl
         |ok l=>simp
end Go.Proofs.YtcfopdccdeeleaaGreatDoor.Y13

namespace Go.Proofs.YtcfopdccdeeleaaGreatDoor.Y14
open Go Go.Ev Go.Proofs Go.Proofs.YtcfopdccdeeleaaGreatDoor YM YS YF P1 P2 Y1 Y2 Y3 Y4 Y5 Y6 Y7 Y8 Y9 Y10 Y11 Y12 Y13
structure vB (ns:Nat) (env:List (ByteArray×Int)):Prop where
 len:env.length≤1000000
 r:∀ p,p∈env→0≤p.2∧p.2<ns
theorem Zq {ns:Nat} {env:List (ByteArray×Int)} (h:vB ns env):ScOk ns (zQ env):=by
 have:∀(l:List (ByteArray×Int)) (s:Scp),(∀ p,p∈l→0≤p.2∧p.2<(ns:Int))→ScOk ns s→ScOk ns (l.foldl (fun s p=>(p.1,kOf [p.2]) :: s) s):=by
  intro l;induction l with
  |nil=>intro s _ hs;exact hs
  |cons a l ih =>
   intro s hl hs;refine ih _ (fun p hp=>hl p (zt _ hp)) fun v hv=>?_
   rcases qK.1 hv with rfl | hv
   ·exact ⟨J9 (by simp) (by simp) (fun x hx=>by rw [zj] at hx;subst hx;exact hl a (zG ..)),rfl⟩
   ·exact hs v hv
 exact this env [] h.r fun v hv=>absurd hv zb
theorem qc8 (c:Ck) (hc:okCk c) (n:Nd) (hw:WfN n) (env:List (ByteArray×Int)) (he:vB c.ts.sorts.length env) :
  jV Tryz.prog 108 [.ip (cNd n),.ip [eCk c],.ip [lPm env]] (if 30≤n.op then (match exam c (zQ env) false n with | .ok _ => .ret (.tup []) | .error e => .pan (jq e.1 e.2)) else .pan (jq 43 n.pos)):=by
 refine vb.of_sound ?_;refine qSW Tryz.call108 Tryz.func108 rfl {} ?_;have hx:=Wn c hc (szN n) n (qB _) hw (zQ env) (Zq he) false;have hwe:WKs [eCk c,aSc (zQ env),eNd n,aB false] [eCk c,aSc (zQ env),eNd n,aB false] := .cons (.hf (yV c)) (.cons (.hf (uw _)) (.cons (.hf (qO n)) (.cons (.hf (HF.sc _)) .nil)));by_cases h:30≤n.op
 ·rw [if_pos h]
  simp [go_sem,h];refine qc.pure (zN true 43 n).toP (wkR n true 43) ?_;simp [go_sem];refine qx.tail 4 (by kernel_rfl) ?_;simp [go_sem];refine qc.pure (kg _ hc.ts.ns env he.len he.r) (.cons (.hf (jJ env)) .nil) ?_;simp [go_sem];cases hE:exam c (zQ env) false n with
  |error e =>
   rw [hE] at hx;refine qc.pans hx hwe ?_;simp [go_sem];exact .hf _ (yr _ _)
  |ok k =>
   rw [hE] at hx;refine qc.pure hx.toP hwe ?_;simp [go_sem];exact .hf _ (HF.tup (by simp))
 ·rw [if_neg h]
  simp [go_sem,h];refine qc.pans (zN false 43 n) (wkR n false 43) ?_;simp [go_sem];exact .hf _ (yr _ _)
theorem UR (c:Ck) (hc:okCk c) (n:Nd) (hw:WfN n) (env:List (ByteArray×Int)) (he:vB c.ts.sorts.length env):qt Tryz.prog 61 [eCk c,lPm env,eNd n] (.agg [aI (jd c env n).1,aI (jd c env n).2]):=by
 refine jV.toP ?_;refine vb.of_sound ?_;refine qSW Tryz.call61 Tryz.func61 rfl {} ?_;simp [go_sem];have hcap:WKs [.ip (cNd n),.ip [eCk c],.ip [lPm env]] [.ip (cNd n),.ip [eCk c],.ip [lPm env]] := .cons (.hf (HF.ip (jb n))) (.cons (.hf (HF.ip (by simp;exact yV c))) (.cons (.hf (HF.ip (by simp;exact jJ env))) .nil));have h1:=(qc8 c hc n hw env he).toSound ([.arr [aI 0,aI 0]]++[.dead]) hcap;refine qc.eff0 (UO (mu:=[.arr [aI 0,aI 0]]) h1 ?_) ?_ ?_
 ·rintro v m ⟨hv,_⟩
  have hv:AEnd.pan v=_:=hv;split at hv
  ·split at hv
   ·exact absurd hv (by simp)
   ·cases hv;exact ⟨_,_,rfl⟩
  ·cases hv;exact ⟨_,_,rfl⟩
 ·rintro r m ⟨m',x,⟨l,rfl⟩,⟨r',⟨hv,rfl⟩,hr⟩ | ⟨er,p,⟨hv,rfl⟩,hr⟩⟩
  ·have hv:AEnd.ret r'=_:=hv
   cases hr;have hf:jd c env n=(0,0):=by
    unfold jd dgOf;split at hv
    ·rename_i h
     rw [if_pos h];split at hv
     ·rename_i h2;first | (rw [h2];done) | rfl
     ·cases hv
    ·cases hv
   rw [hf];simp [go_sem];exact .hf _ (HF.agg fun c hc=>by simp at hc;rcases hc with rfl | rfl<;>exact HF.sc _)
  ·have hv:AEnd.pan (jq er p)=_:=hv
   cases hr;have hf:jd c env n=(er,p):=by
    unfold jd dgOf;split at hv
    ·rename_i h
     rw [if_pos h];split at hv
     ·cases hv
     ·rename_i e h2;(try rw [h2]);cases hv;rfl
    ·rename_i h
     rw [if_neg h];cases hv;rfl
   rw [hf];simp [go_sem];exact .hf _ (HF.agg fun c hc=>by simp at hc;rcases hc with rfl | rfl<;>exact HF.sc _)
 ·rintro r m ⟨m',x,⟨l,rfl⟩,⟨r',⟨hv,rfl⟩,hr⟩ | ⟨er,p,⟨hv,rfl⟩,hr⟩⟩<;>cases hr
theorem Wo {p:Pd} (h:WfN p.body):Small p.body:=h.small
theorem Qg (ts:TS) (h:okTS ts) (hp:∀ p,p∈ts.preds→WfN p.body) (n:Nd) (hw:WfN n) (env:List (ByteArray×Int)) (he:vB ts.sorts.length env):qt Tryz.prog 20 [eTS ts,lPm env,eNd n] (.agg [aI (yK ts env n).1,aI (yK ts env n).2]):=by
 refine qSQ Tryz.call20 Tryz.func20 rfl {} ?_;simp [go_sem];refine qx.intro (by kernel_rfl) ?_;simp [go_sem];refine qc.pure (We ts h (fun p hq=>(hp p hq).small) _ (qB _)) (.cons (.hf (zq ts)) (.cons (.hf (HF.sc _)) .nil)) ?_;simp [go_sem];refine qc.pure (UR _ (vO h (qB _)) n hw env he) (.cons (.hf (yV _)) (.cons (.hf (jJ env)) (.cons (.hf (qO n)) .nil))) ?_;simp [go_sem];exact .hf _ (HF.agg fun c hc=>by simp at hc;rcases hc with rfl | rfl<;>exact HF.sc _)
end Go.Proofs.YtcfopdccdeeleaaGreatDoor.Y14


namespace Go.Proofs.YtcfopdccdeeleaaGreatDoor.Y15
open Go Go.Ev Go.Proofs Go.Proofs.YtcfopdccdeeleaaGreatDoor YM YS YF P1 P2 Y1 Y2 Y3 Y4 Y5 Y6 Y7 Y8 Y9 Y10 Y11 Y12 Y13 Y14
def repL {α:Type} (eqv:α→α→Bool) (l:List α):List Bool:=(List.range l.length).map fun i=>match l[i]? with | some x=>(l.take i).any fun y=>eqv x y | none=>false
theorem yQ {α:Type} (eqv:α→α→Bool) (l:List α):(repL eqv l).length=l.length:=by simp [repL]
theorem Qh {α:Type} (eqv:α→α→Bool) (l:List α) {i:Nat} (h:i<l.length):(repL eqv l)[i]?=some ((l.take i).any fun y=>eqv l[i] y):=by
 simp [repL,h]
abbrev lB (l:List Bool):AV := .lst false (l.map fun b=>[aB b])
theorem Yu {xs:List Bool} {n:Nat} (hn:xs.length=n) {c:List AV} {rest:Mu} (hc:c=(xs.take n).map aB):Rd (.arr c :: rest) (.sl 0 1 0 n) (lB xs):=by
 subst hc;refine .sl 0 1 0 n _ _ rfl (by simp [hn]) (by simp [hn]) (fun r hr=>?_) fun k x y hx hy=>?_
 ·obtain ⟨b,_,rfl⟩:=qE.1 hr;rfl
 ·have e:(xs.map fun b=>[aB b]).flatten=xs.map aB:=by
   clear hx hy hn;induction xs with
   |nil=>rfl
   |cons a l ih=>simp [ih]
  rw [e] at hy;rw [Nat.zero_add,y5 (by omega)] at hx;rw [hx] at hy;cases hy;obtain ⟨b,_,rfl⟩:=qE.1 (ze hx);exact .hf _ (HF.sc _)
theorem Yv {xs:List Bool} {n k:Nat} (hn:xs.length=n) (hk:k<n) {b:Bool} (hb:xs[k]?=some b):((xs.take k).map aB++List.replicate (n-k) (aB false)).set k (aB b)=(xs.take (k+1)).map aB++List.replicate (n-(k+1)) (aB false):=by
 apply List.ext_getElem?;intro i;rw [List.getElem?_set];by_cases h:k=i
 ·subst h
  rw [if_pos rfl,if_pos (by simp;omega),qz (by simp;omega),zM,jo,if_pos (by omega),hb];rfl
 ·rw [if_neg h]
  by_cases h1:i<k
  ·rw [qz (by simp;omega),qz (by simp;omega),zM,zM,jo,jo,if_pos (by omega),if_pos (by omega)]
  ·rw [zl (by simp;omega),zl (by simp;omega),List.getElem?_replicate,List.getElem?_replicate]
   simp only [jn,List.length_take];by_cases h2:i<n
   ·rw [if_pos (by omega),if_pos (by omega)]
   ·rw [if_neg (by omega),if_neg (by omega)]
theorem jX (g:FuncId):HF (.ip [.fn (.func g) [] []]):=HF.ip fun c hc=>by
 rw [zj] at hc;subst hc;exact HF.fn (fun c hc=>by simp at hc) (fun c hc=>by simp at hc)
theorem eq3U (x y:ByteArray×Bool):qt Tryz.prog 53 [.agg (yh x),.agg (yh y)] (aB (decide (x.1=y.1))):=by
 refine qSQ Tryz.call53 Tryz.func53 rfl {} ?_;obtain ⟨a,b⟩:=x;obtain ⟨c,d⟩:=y;by_cases h:a=c
 ·subst h
  simp [go_sem];exact .hf _ (HF.sc _)
 ·simp [go_sem,h,zL h]
  exact .hf _ (HF.sc _)
@[go_sem] theorem put_cFa (a b c d e f:AV) (s:AV) (n:Nd):putCells [a,b,c,d,e,f] 0 (s :: cNd n)=s :: cNd n:=by
 rw [yk];simp [putCells]
theorem qc9 (g:FuncId) (eqv:ByteArray×Bool→ByteArray×Bool→Bool) (x y:ByteArray×Bool) (hg:qt Tryz.prog g [.agg (yh x),.agg (yh y)] (aB (eqv x y))):qt Tryz.prog 101 [.agg (yh y),.ip [.fn (.func g) [] []],.ip (yh x)] (aB (eqv x y)):=by
 refine qSQ Tryz.call101 Tryz.func101 rfl {} ?_;simp [go_sem];refine qc.pure hg (.cons (.hf (HF.agg (wZ x))) (.cons (.hf (HF.agg (wZ y))) .nil)) ?_;simp [go_sem];exact .hf _ (HF.sc _)
theorem qdA (g:FuncId) (eqv:ByteArray×Bool→ByteArray×Bool→Bool) (l:List (ByteArray×Bool)) (hg:∀ x y,x∈l→y∈l→qt Tryz.prog g [.agg (yh x),.agg (yh y)] (aB (eqv x y))) (hl:l.length≤1000):qt Tryz.prog 52 [lSo l,.fn (.func g) [] []] (lB (repL eqv l)):=by
 refine qSQ Tryz.call52 Tryz.func52 rfl {} ?_;have hl2:(l.length:Int)≤4294967296:=by omega
 simp [go_sem,hl2];refine qD.upK l.length (fun k st=>∃ rest,st.tm 0=lSo l∧st.tm 3 = .ip [.fn (.func g) [] []]∧st.tm 5 = .sl 0 1 0 l.length∧st.tm 11=lSo l∧st.tm 12=aI l.length∧st.tm 13=aI k∧st.mu = .arr (((repL eqv l).take k).map aB++List.replicate (l.length-k) (aB false)) :: rest) ?_ ?_
 ·exact ⟨[],by simp [go_sem],by simp [go_sem],by simp [go_sem],by simp [go_sem],by simp [go_sem],by simp [go_sem],by simp [go_sem]⟩
 ·rintro k st hk ⟨rest,e0,e3,e5,e11,e12,e13,hm⟩
  have hrl:=yQ eqv l;by_cases hkl:k=l.length
  ·subst hkl
   simp [go_sem,e0,e3,e5,e11,e12,e13,hm];exact Yu hrl List.map_take.symm
  ·have hlt:k<l.length:=by omega
   have w1:IntKind.i64.wrap ((k:Int)+1)=(k:Int)+1:=qy (by omega) (by omega);have hsz:yD 2 (l.map yh):=fun r hr=>by
    obtain ⟨q,_,rfl⟩:=qE.1 hr;exact (U7 q).1
   have hcc:(yh l[k]).length=2:=(U7 _).1;simp [go_sem,e0,e3,e5,e11,e12,e13,hm,hlt];refine ⟨⟨_,_,⟨rfl,rfl⟩,hsz⟩,?_⟩;rw [if_pos (by omega)];simp [go_sem,e3];have hF:ju Tryz.prog (.fn (.func 101) [] [.ip [.fn (.func g) [] []],.ip (yh l[k])]) (l.take k) (fun x => .agg (yh x)) (eqv l[k]):=
    ⟨_,_,_,rfl,fun y hy=>⟨_,qc9 g eqv l[k] y (hg l[k] y (qJ hlt) (List.mem_of_mem_take hy)),.cons (.hf (HF.agg (wZ y))) (.cons (.hf (jX g)) (.cons (.hf (HF.ip (wZ _))) .nil))⟩⟩
   have hhF:HF (.fn (.func 101) [] [.ip [.fn (.func g) [] []],.ip (yh l[k])]):=HF.fn (fun c hc=>by simp at hc) fun c hc=>by
    simp only [qK,zb,or_false] at hc;rcases hc with rfl | rfl
    ·exact jX g
    ·exact HF.ip (wZ _)
   have hl3:=w6 (l.take k);refine qc.eff0 (qW.freeze (args1:=[.lst false ((l.take k).map yh),.fn (.func 101) [] [.ip [.fn (.func g) [] []],.ip (yh l[k])]]) (fun j=>decide (j=rest.length+1)) ⟨.inl (by simp),.inr ?_,trivial⟩ ((hasSo false (l.take k) _ _ hF hhF hl3 (by simp;omega)).toSound _ (.cons (.hf hl3) (.cons (.hf hhF) .nil)))) ?_ ?_
   ·refine .fn _ _ _ _ _ rfl rfl (fun k x y hx=>by simp at hx) fun j x y hx hy=>?_
    match j,hx,hy with
    | 0,hx,hy =>
     simp at hx hy;subst hx;subst hy;exact .hf _ (jX g)
    | 1,hx,hy =>
     simp at hx hy;subst hx;subst hy;exact .ptr _ 0 (yh l[k]) _ (by rw [vg];simp) (by simp) fun i x y hx hy=>by
      rw [Nat.zero_add] at hx;rw [hx] at hy;cases hy;exact .hf _ (wZ _ _ (ze hx))
    |j+2,hx,hy=>simp at hx
   ·rintro r m ⟨e,rfl⟩
    cases e;have hAs:=Yv hrl hlt (Qh eqv l hlt);simp only [List.map_take] at hAs;generalize hA:List.take k (List.map aB (repL eqv l))++List.replicate (l.length-k) (aB false)=A at hAs;have hAl:A.length=l.length:=by rw [←hA];simp [hrl];omega
    have hkA:k+1≤A.length:=by omega
    simp [go_sem,cutM,hlt,hkA,e0,e3,e5,e11,e12,e13,w1];refine Keep.mk' ?_;refine ⟨cutM (fun i=>!decide (i=rest.length+1)) (rest++[.arr (yh l[k])]) 1,by simp [go_sem,e0],by simp [go_sem,e3],by simp [go_sem,e5],by simp [go_sem,e11],by simp [go_sem,e12],by simp [go_sem],?_⟩;simp only [qT,List.map_take];rw [←hAs]
   ·rintro r m ⟨e,_⟩;cases e
theorem qdB (g:FuncId) (eqv:Fld→Fld→Bool) (x y:Fld) (hg:qt Tryz.prog g [.agg (yi x),.agg (yi y)] (aB (eqv x y))):qt Tryz.prog 103 [.agg (yi y),.ip [.fn (.func g) [] []],.ip (yi x)] (aB (eqv x y)):=by
 refine qSQ Tryz.call103 Tryz.func103 rfl {} ?_;simp [go_sem];refine qc.pure hg (.cons (.hf (HF.agg (wR x))) (.cons (.hf (HF.agg (wR y))) .nil)) ?_;simp [go_sem];exact .hf _ (HF.sc _)
theorem qdC (g:FuncId) (eqv:Fld→Fld→Bool) (l:List (Fld)) (hg:∀ x y,x∈l→y∈l→qt Tryz.prog g [.agg (yi x),.agg (yi y)] (aB (eqv x y))) (hl:l.length≤1000):qt Tryz.prog 54 [lFl l,.fn (.func g) [] []] (lB (repL eqv l)):=by
 refine qSQ Tryz.call54 Tryz.func54 rfl {} ?_;have hl2:(l.length:Int)≤4294967296:=by omega
 simp [go_sem,hl2];refine qD.upK l.length (fun k st=>∃ rest,st.tm 0=lFl l∧st.tm 3 = .ip [.fn (.func g) [] []]∧st.tm 5 = .sl 0 1 0 l.length∧st.tm 11=lFl l∧st.tm 12=aI l.length∧st.tm 13=aI k∧st.mu = .arr (((repL eqv l).take k).map aB++List.replicate (l.length-k) (aB false)) :: rest) ?_ ?_
 ·exact ⟨[],by simp [go_sem],by simp [go_sem],by simp [go_sem],by simp [go_sem],by simp [go_sem],by simp [go_sem],by simp [go_sem]⟩
 ·rintro k st hk ⟨rest,e0,e3,e5,e11,e12,e13,hm⟩
  have hrl:=yQ eqv l;by_cases hkl:k=l.length
  ·subst hkl
   simp [go_sem,e0,e3,e5,e11,e12,e13,hm];exact Yu hrl List.map_take.symm
  ·have hlt:k<l.length:=by omega
   have w1:IntKind.i64.wrap ((k:Int)+1)=(k:Int)+1:=qy (by omega) (by omega);have hsz:yD 3 (l.map yi):=fun r hr=>by
    obtain ⟨q,_,rfl⟩:=qE.1 hr;exact (U9 q).1
   have hcc:(yi l[k]).length=3:=(U9 _).1;simp [go_sem,e0,e3,e5,e11,e12,e13,hm,hlt];refine ⟨⟨_,_,⟨rfl,rfl⟩,hsz⟩,?_⟩;rw [if_pos (by omega)];simp [go_sem,e3];have hF:ju Tryz.prog (.fn (.func 103) [] [.ip [.fn (.func g) [] []],.ip (yi l[k])]) (l.take k) (fun x => .agg (yi x)) (eqv l[k]):=
    ⟨_,_,_,rfl,fun y hy=>⟨_,qdB g eqv l[k] y (hg l[k] y (qJ hlt) (List.mem_of_mem_take hy)),.cons (.hf (HF.agg (wR y))) (.cons (.hf (jX g)) (.cons (.hf (HF.ip (wR _))) .nil))⟩⟩
   have hhF:HF (.fn (.func 103) [] [.ip [.fn (.func g) [] []],.ip (yi l[k])]):=HF.fn (fun c hc=>by simp at hc) fun c hc=>by
    simp only [qK,zb,or_false] at hc;rcases hc with rfl | rfl
    ·exact jX g
    ·exact HF.ip (wR _)
   have hl3:=w7 (l.take k);refine qc.eff0 (qW.freeze (args1:=[.lst false ((l.take k).map yi),.fn (.func 103) [] [.ip [.fn (.func g) [] []],.ip (yi l[k])]]) (fun j=>decide (j=rest.length+1)) ⟨.inl (by simp),.inr ?_,trivial⟩ ((hasFl false (l.take k) _ _ hF hhF hl3 (by simp;omega)).toSound _ (.cons (.hf hl3) (.cons (.hf hhF) .nil)))) ?_ ?_
   ·refine .fn _ _ _ _ _ rfl rfl (fun k x y hx=>by simp at hx) fun j x y hx hy=>?_
    match j,hx,hy with
    | 0,hx,hy =>
     simp at hx hy;subst hx;subst hy;exact .hf _ (jX g)
    | 1,hx,hy =>
     simp at hx hy;subst hx;subst hy;exact .ptr _ 0 (yi l[k]) _ (by rw [vg];simp) (by simp) fun i x y hx hy=>by
      rw [Nat.zero_add] at hx;rw [hx] at hy;cases hy;exact .hf _ (wR _ _ (ze hx))
    |j+2,hx,hy=>simp at hx
   ·rintro r m ⟨e,rfl⟩
    cases e;have hAs:=Yv hrl hlt (Qh eqv l hlt);simp only [List.map_take] at hAs;generalize hA:List.take k (List.map aB (repL eqv l))++List.replicate (l.length-k) (aB false)=A at hAs;have hAl:A.length=l.length:=by rw [←hA];simp [hrl];omega
    have hkA:k+1≤A.length:=by omega
    simp [go_sem,cutM,hlt,hkA,e0,e3,e5,e11,e12,e13,w1];refine Keep.mk' ?_;refine ⟨cutM (fun i=>!decide (i=rest.length+1)) (rest++[.arr (yi l[k])]) 1,by simp [go_sem,e0],by simp [go_sem,e3],by simp [go_sem,e5],by simp [go_sem,e11],by simp [go_sem,e12],by simp [go_sem],?_⟩;simp only [qT,List.map_take];rw [←hAs]
   ·rintro r m ⟨e,_⟩;cases e
theorem qdF (g:FuncId) (eqv:Pd→Pd→Bool) (x y:Pd) (hg:qt Tryz.prog g [.agg (cPd x),.agg (cPd y)] (aB (eqv x y))):qt Tryz.prog 105 [.agg (cPd y),.ip [.fn (.func g) [] []],.ip (cPd x)] (aB (eqv x y)):=by
 refine qSQ Tryz.call105 Tryz.func105 rfl {} ?_;simp [go_sem];refine qc.pure hg (.cons (.hf (HF.agg (uy x))) (.cons (.hf (HF.agg (uy y))) .nil)) ?_;simp [go_sem];exact .hf _ (HF.sc _)
theorem qdG (g:FuncId) (eqv:Pd→Pd→Bool) (l:List (Pd)) (hg:∀ x y,x∈l→y∈l→qt Tryz.prog g [.agg (cPd x),.agg (cPd y)] (aB (eqv x y))) (hl:l.length≤1000):qt Tryz.prog 57 [lPd l,.fn (.func g) [] []] (lB (repL eqv l)):=by
 refine qSQ Tryz.call57 Tryz.func57 rfl {} ?_;have hl2:(l.length:Int)≤4294967296:=by omega
 simp [go_sem,hl2];refine qD.upK l.length (fun k st=>∃ rest,st.tm 0=lPd l∧st.tm 3 = .ip [.fn (.func g) [] []]∧st.tm 5 = .sl 0 1 0 l.length∧st.tm 11=lPd l∧st.tm 12=aI l.length∧st.tm 13=aI k∧st.mu = .arr (((repL eqv l).take k).map aB++List.replicate (l.length-k) (aB false)) :: rest) ?_ ?_
 ·exact ⟨[],by simp [go_sem],by simp [go_sem],by simp [go_sem],by simp [go_sem],by simp [go_sem],by simp [go_sem],by simp [go_sem]⟩
 ·rintro k st hk ⟨rest,e0,e3,e5,e11,e12,e13,hm⟩
  have hrl:=yQ eqv l;by_cases hkl:k=l.length
  ·subst hkl
   simp [go_sem,e0,e3,e5,e11,e12,e13,hm];exact Yu hrl List.map_take.symm
  ·have hlt:k<l.length:=by omega
   have w1:IntKind.i64.wrap ((k:Int)+1)=(k:Int)+1:=qy (by omega) (by omega);have hsz:yD 7 (l.map cPd):=fun r hr=>by
    obtain ⟨q,_,rfl⟩:=qE.1 hr;exact (jt q).1
   have hcc:(cPd l[k]).length=7:=(jt _).1;simp [go_sem,e0,e3,e5,e11,e12,e13,hm,hlt];refine ⟨⟨_,_,⟨rfl,rfl⟩,hsz⟩,?_⟩;rw [if_pos (by omega)];simp [go_sem,e3];have hF:ju Tryz.prog (.fn (.func 105) [] [.ip [.fn (.func g) [] []],.ip (cPd l[k])]) (l.take k) (fun x => .agg (cPd x)) (eqv l[k]):=
    ⟨_,_,_,rfl,fun y hy=>⟨_,qdF g eqv l[k] y (hg l[k] y (qJ hlt) (List.mem_of_mem_take hy)),.cons (.hf (HF.agg (uy y))) (.cons (.hf (jX g)) (.cons (.hf (HF.ip (uy _))) .nil))⟩⟩
   have hhF:HF (.fn (.func 105) [] [.ip [.fn (.func g) [] []],.ip (cPd l[k])]):=HF.fn (fun c hc=>by simp at hc) fun c hc=>by
    simp only [qK,zb,or_false] at hc;rcases hc with rfl | rfl
    ·exact jX g
    ·exact HF.ip (uy _)
   have hl3:=ua (l.take k);refine qc.eff0 (qW.freeze (args1:=[.lst false ((l.take k).map cPd),.fn (.func 105) [] [.ip [.fn (.func g) [] []],.ip (cPd l[k])]]) (fun j=>decide (j=rest.length+1)) ⟨.inl (by simp),.inr ?_,trivial⟩ ((K7 false (l.take k) _ _ hF hhF hl3 (by simp;omega)).toSound _ (.cons (.hf hl3) (.cons (.hf hhF) .nil)))) ?_ ?_
   ·refine .fn _ _ _ _ _ rfl rfl (fun k x y hx=>by simp at hx) fun j x y hx hy=>?_
    match j,hx,hy with
    | 0,hx,hy =>
     simp at hx hy;subst hx;subst hy;exact .hf _ (jX g)
    | 1,hx,hy =>
     simp at hx hy;subst hx;subst hy;exact .ptr _ 0 (cPd l[k]) _ (by rw [vg];simp) (by simp) fun i x y hx hy=>by
      rw [Nat.zero_add] at hx;rw [hx] at hy;cases hy;exact .hf _ (uy _ _ (ze hx))
    |j+2,hx,hy=>simp at hx
   ·rintro r m ⟨e,rfl⟩
    cases e;have hAs:=Yv hrl hlt (Qh eqv l hlt);simp only [List.map_take] at hAs;generalize hA:List.take k (List.map aB (repL eqv l))++List.replicate (l.length-k) (aB false)=A at hAs;have hAl:A.length=l.length:=by rw [←hA];simp [hrl];omega
    have hkA:k+1≤A.length:=by omega
    simp [go_sem,cutM,hlt,hkA,e0,e3,e5,e11,e12,e13,w1];refine Keep.mk' ?_;refine ⟨cutM (fun i=>!decide (i=rest.length+1)) (rest++[.arr (cPd l[k])]) 1,by simp [go_sem,e0],by simp [go_sem,e3],by simp [go_sem,e5],by simp [go_sem,e11],by simp [go_sem,e12],by simp [go_sem],?_⟩;simp only [qT,List.map_take];rw [←hAs]
   ·rintro r m ⟨e,_⟩;cases e
theorem qdH (g:FuncId) (eqv:ByteArray×Int→ByteArray×Int→Bool) (x y:ByteArray×Int) (hg:qt Tryz.prog g [.agg (cPm x),.agg (cPm y)] (aB (eqv x y))):qt Tryz.prog 107 [.agg (cPm y),.ip [.fn (.func g) [] []],.ip (cPm x)] (aB (eqv x y)):=by
 refine qSQ Tryz.call107 Tryz.func107 rfl {} ?_;simp [go_sem];refine qc.pure hg (.cons (.hf (HF.agg (wu x))) (.cons (.hf (HF.agg (wu y))) .nil)) ?_;simp [go_sem];exact .hf _ (HF.sc _)
theorem qdI (g:FuncId) (eqv:ByteArray×Int→ByteArray×Int→Bool) (l:List (ByteArray×Int)) (hg:∀ x y,x∈l→y∈l→qt Tryz.prog g [.agg (cPm x),.agg (cPm y)] (aB (eqv x y))) (hl:l.length≤1000):qt Tryz.prog 59 [lPm l,.fn (.func g) [] []] (lB (repL eqv l)):=by
 refine qSQ Tryz.call59 Tryz.func59 rfl {} ?_;have hl2:(l.length:Int)≤4294967296:=by omega
 simp [go_sem,hl2];refine qD.upK l.length (fun k st=>∃ rest,st.tm 0=lPm l∧st.tm 3 = .ip [.fn (.func g) [] []]∧st.tm 5 = .sl 0 1 0 l.length∧st.tm 11=lPm l∧st.tm 12=aI l.length∧st.tm 13=aI k∧st.mu = .arr (((repL eqv l).take k).map aB++List.replicate (l.length-k) (aB false)) :: rest) ?_ ?_
 ·exact ⟨[],by simp [go_sem],by simp [go_sem],by simp [go_sem],by simp [go_sem],by simp [go_sem],by simp [go_sem],by simp [go_sem]⟩
 ·rintro k st hk ⟨rest,e0,e3,e5,e11,e12,e13,hm⟩
  have hrl:=yQ eqv l;by_cases hkl:k=l.length
  ·subst hkl
   simp [go_sem,e0,e3,e5,e11,e12,e13,hm];exact Yu hrl List.map_take.symm
  ·have hlt:k<l.length:=by omega
   have w1:IntKind.i64.wrap ((k:Int)+1)=(k:Int)+1:=qy (by omega) (by omega);have hsz:yD 2 (l.map cPm):=fun r hr=>by
    obtain ⟨q,_,rfl⟩:=qE.1 hr;exact (Wa q).1
   have hcc:(cPm l[k]).length=2:=(Wa _).1;simp [go_sem,e0,e3,e5,e11,e12,e13,hm,hlt];refine ⟨⟨_,_,⟨rfl,rfl⟩,hsz⟩,?_⟩;rw [if_pos (by omega)];simp [go_sem,e3];have hF:ju Tryz.prog (.fn (.func 107) [] [.ip [.fn (.func g) [] []],.ip (cPm l[k])]) (l.take k) (fun x => .agg (cPm x)) (eqv l[k]):=
    ⟨_,_,_,rfl,fun y hy=>⟨_,qdH g eqv l[k] y (hg l[k] y (qJ hlt) (List.mem_of_mem_take hy)),.cons (.hf (HF.agg (wu y))) (.cons (.hf (jX g)) (.cons (.hf (HF.ip (wu _))) .nil))⟩⟩
   have hhF:HF (.fn (.func 107) [] [.ip [.fn (.func g) [] []],.ip (cPm l[k])]):=HF.fn (fun c hc=>by simp at hc) fun c hc=>by
    simp only [qK,zb,or_false] at hc;rcases hc with rfl | rfl
    ·exact jX g
    ·exact HF.ip (wu _)
   have hl3:=jJ (l.take k);refine qc.eff0 (qW.freeze (args1:=[.lst false ((l.take k).map cPm),.fn (.func 107) [] [.ip [.fn (.func g) [] []],.ip (cPm l[k])]]) (fun j=>decide (j=rest.length+1)) ⟨.inl (by simp),.inr ?_,trivial⟩ ((hasPm false (l.take k) _ _ hF hhF hl3 (by simp;omega)).toSound _ (.cons (.hf hl3) (.cons (.hf hhF) .nil)))) ?_ ?_
   ·refine .fn _ _ _ _ _ rfl rfl (fun k x y hx=>by simp at hx) fun j x y hx hy=>?_
    match j,hx,hy with
    | 0,hx,hy =>
     simp at hx hy;subst hx;subst hy;exact .hf _ (jX g)
    | 1,hx,hy =>
     simp at hx hy;subst hx;subst hy;exact .ptr _ 0 (cPm l[k]) _ (by rw [vg];simp) (by simp) fun i x y hx hy=>by
      rw [Nat.zero_add] at hx;rw [hx] at hy;cases hy;exact .hf _ (wu _ _ (ze hx))
    |j+2,hx,hy=>simp at hx
   ·rintro r m ⟨e,rfl⟩
    cases e;have hAs:=Yv hrl hlt (Qh eqv l hlt);simp only [List.map_take] at hAs;generalize hA:List.take k (List.map aB (repL eqv l))++List.replicate (l.length-k) (aB false)=A at hAs;have hAl:A.length=l.length:=by rw [←hA];simp [hrl];omega
    have hkA:k+1≤A.length:=by omega
    simp [go_sem,cutM,hlt,hkA,e0,e3,e5,e11,e12,e13,w1];refine Keep.mk' ?_;refine ⟨cutM (fun i=>!decide (i=rest.length+1)) (rest++[.arr (cPm l[k])]) 1,by simp [go_sem,e0],by simp [go_sem,e3],by simp [go_sem,e5],by simp [go_sem,e11],by simp [go_sem,e12],by simp [go_sem],?_⟩;simp only [qT,List.map_take];rw [←hAs]
   ·rintro r m ⟨e,_⟩;cases e
theorem qdJ (g:FuncId) (eqv:ByteArray×Nd→ByteArray×Nd→Bool) (x y:ByteArray×Nd) (hg:qt Tryz.prog g [.agg (cFa x),.agg (cFa y)] (aB (eqv x y))):qt Tryz.prog 110 [.agg (cFa y),.ip [.fn (.func g) [] []],.ip (cFa x)] (aB (eqv x y)):=by
 refine qSQ Tryz.call110 Tryz.func110 rfl {} ?_;simp [go_sem];refine qc.pure hg (.cons (.hf (HF.agg (wY x))) (.cons (.hf (HF.agg (wY y))) .nil)) ?_;simp [go_sem];exact .hf _ (HF.sc _)
theorem qdK (g:FuncId) (eqv:ByteArray×Nd→ByteArray×Nd→Bool) (l:List (ByteArray×Nd)) (hg:∀ x y,x∈l→y∈l→qt Tryz.prog g [.agg (cFa x),.agg (cFa y)] (aB (eqv x y))) (hl:l.length≤1000):qt Tryz.prog 62 [lFa l,.fn (.func g) [] []] (lB (repL eqv l)):=by
 refine qSQ Tryz.call62 Tryz.func62 rfl {} ?_;have hl2:(l.length:Int)≤4294967296:=by omega
 simp [go_sem,hl2];refine qD.upK l.length (fun k st=>∃ rest,st.tm 0=lFa l∧st.tm 3 = .ip [.fn (.func g) [] []]∧st.tm 5 = .sl 0 1 0 l.length∧st.tm 11=lFa l∧st.tm 12=aI l.length∧st.tm 13=aI k∧st.mu = .arr (((repL eqv l).take k).map aB++List.replicate (l.length-k) (aB false)) :: rest) ?_ ?_
 ·exact ⟨[],by simp [go_sem],by simp [go_sem],by simp [go_sem],by simp [go_sem],by simp [go_sem],by simp [go_sem],by simp [go_sem]⟩
 ·rintro k st hk ⟨rest,e0,e3,e5,e11,e12,e13,hm⟩
  have hrl:=yQ eqv l;by_cases hkl:k=l.length
  ·subst hkl
   simp [go_sem,e0,e3,e5,e11,e12,e13,hm];exact Yu hrl List.map_take.symm
  ·have hlt:k<l.length:=by omega
   have w1:IntKind.i64.wrap ((k:Int)+1)=(k:Int)+1:=qy (by omega) (by omega);have hsz:yD 6 (l.map cFa):=fun r hr=>by
    obtain ⟨q,_,rfl⟩:=qE.1 hr;exact (Yp q).1
   have hcc:(cFa l[k]).length=6:=(Yp _).1;simp [go_sem,e0,e3,e5,e11,e12,e13,hm,hlt];refine ⟨⟨_,_,⟨rfl,rfl⟩,hsz⟩,?_⟩;rw [if_pos (by omega)];simp [go_sem,e3];have hF:ju Tryz.prog (.fn (.func 110) [] [.ip [.fn (.func g) [] []],.ip (cFa l[k])]) (l.take k) (fun x => .agg (cFa x)) (eqv l[k]):=
    ⟨_,_,_,rfl,fun y hy=>⟨_,qdJ g eqv l[k] y (hg l[k] y (qJ hlt) (List.mem_of_mem_take hy)),.cons (.hf (HF.agg (wY y))) (.cons (.hf (jX g)) (.cons (.hf (HF.ip (wY _))) .nil))⟩⟩
   have hhF:HF (.fn (.func 110) [] [.ip [.fn (.func g) [] []],.ip (cFa l[k])]):=HF.fn (fun c hc=>by simp at hc) fun c hc=>by
    simp only [qK,zb,or_false] at hc;rcases hc with rfl | rfl
    ·exact jX g
    ·exact HF.ip (wY _)
   have hl3:=Zn (l.take k);refine qc.eff0 (qW.freeze (args1:=[.lst false ((l.take k).map cFa),.fn (.func 110) [] [.ip [.fn (.func g) [] []],.ip (cFa l[k])]]) (fun j=>decide (j=rest.length+1)) ⟨.inl (by simp),.inr ?_,trivial⟩ ((hasFa false (l.take k) _ _ hF hhF hl3 (by simp;omega)).toSound _ (.cons (.hf hl3) (.cons (.hf hhF) .nil)))) ?_ ?_
   ·refine .fn _ _ _ _ _ rfl rfl (fun k x y hx=>by simp at hx) fun j x y hx hy=>?_
    match j,hx,hy with
    | 0,hx,hy =>
     simp at hx hy;subst hx;subst hy;exact .hf _ (jX g)
    | 1,hx,hy =>
     simp at hx hy;subst hx;subst hy;exact .ptr _ 0 (cFa l[k]) _ (by rw [vg];simp) (by simp) fun i x y hx hy=>by
      rw [Nat.zero_add] at hx;rw [hx] at hy;cases hy;exact .hf _ (wY _ _ (ze hx))
    |j+2,hx,hy=>simp at hx
   ·rintro r m ⟨e,rfl⟩
    cases e;have hAs:=Yv hrl hlt (Qh eqv l hlt);simp only [List.map_take] at hAs;generalize hA:List.take k (List.map aB (repL eqv l))++List.replicate (l.length-k) (aB false)=A at hAs;have hAl:A.length=l.length:=by rw [←hA];simp [hrl];omega
    have hkA:k+1≤A.length:=by omega
    simp [go_sem,cutM,hlt,hkA,e0,e3,e5,e11,e12,e13,w1];refine Keep.mk' ?_;refine ⟨cutM (fun i=>!decide (i=rest.length+1)) (rest++[.arr (cFa l[k])]) 1,by simp [go_sem,e0],by simp [go_sem,e3],by simp [go_sem,e5],by simp [go_sem,e11],by simp [go_sem,e12],by simp [go_sem],?_⟩;simp only [qT,List.map_take];rw [←hAs]
   ·rintro r m ⟨e,_⟩;cases e
end Go.Proofs.YtcfopdccdeeleaaGreatDoor.Y15


namespace Go.Proofs.YtcfopdccdeeleaaGreatDoor.Y16
open Go Go.Ev Go.Proofs Go.Proofs.YtcfopdccdeeleaaGreatDoor YM YS YF P1 P2 Y1 Y2 Y3 Y4 Y5 Y6 Y7 Y8 Y9 Y10 Y11 Y12 Y13 Y14 Y15
theorem qdL (a b:List Int) (ha:a.length≤9223372036854775807):qt Tryz.prog 56 [lI a,lI b] (aB (decide (a=b))):=by
 refine qSQ Tryz.call56 Tryz.func56 rfl {} ?_;by_cases hn:a.length=b.length
 case neg =>
  simp [go_sem,hn];rw [decide_eq_false (by rintro rfl;exact hn rfl)];exact .hf _ (HF.sc _)
 simp [go_sem,hn];refine qD.up a.length (fun k st=>st.tm 0=lI a∧st.tm 1=lI b∧st.tm 12=aI a.length∧st.tm 13=aI k∧st.mu=[]∧∀(i:Nat) (h:i<a.length) (h':i<b.length),i<k→a[i]=b[i]) ?_ ?_
 ·simp [go_sem,hn]
 rintro k st hk ⟨h0,h1,h12,h13,hm,he⟩;by_cases hlt:k<a.length
 ·have hlt':k<b.length:=by omega
  simp [go_sem,h0,h1,h12,h13,hm,hlt]
  try refine qx.intro (by kernel_rfl) ?_
  by_cases hb:a[k]=b[k]
  ·simp [go_sem,h0,h1,h12,h13,hm,hlt,hlt',hb]
   refine ⟨qy (by omega) (by omega),fun i h h' hi=>?_⟩;rcases Nat.lt_succ_iff_lt_or_eq.1 hi with h2 | h2
   ·exact he i h h' h2
   ·subst h2;exact hb
  ·simp [go_sem,h0,h1,h12,h13,hm,hlt,hlt',hb]
   rw [decide_eq_false (by rintro rfl;simp at hb)];exact .hf _ (HF.sc _)
 ·have hge:k=a.length:=by omega
  subst hge;simp [go_sem,h0,h1,h12,h13,hm];rw [decide_eq_true (List.ext_getElem hn fun i h h'=>he i h h' h)];exact .hf _ (HF.sc _)
theorem eq4U (x y:Fld) (hx:x.sorts.length≤1000):qt Tryz.prog 55 [.agg (yi x),.agg (yi y)] (aB (decide (x.name=y.name)&&decide (x.sorts=y.sorts))):=by
 refine qSQ Tryz.call55 Tryz.func55 rfl {} ?_;by_cases h:x.name=y.name
 ·simp [go_sem,h]
  refine qc.pure (qdL x.sorts y.sorts (by omega)) (.cons (.hf (j9 _)) (.cons (.hf (j9 _)) .nil)) ?_;simp [go_sem];exact .hf _ (HF.sc _)
 ·simp [go_sem,h,zL h]
  exact .hf _ (HF.sc _)
theorem eq5U (x y:Pd):qt Tryz.prog 58 [.agg (cPd x),.agg (cPd y)] (aB (decide (x.name=y.name))):=by
 refine qSQ Tryz.call58 Tryz.func58 rfl {} ?_;by_cases h:x.name=y.name
 ·simp [go_sem,h]
  exact .hf _ (HF.sc _)
 ·simp [go_sem,h,zL h]
  exact .hf _ (HF.sc _)
theorem eq6U (x y:ByteArray×Int):qt Tryz.prog 60 [.agg (cPm x),.agg (cPm y)] (aB (decide (x.1=y.1))):=by
 refine qSQ Tryz.call60 Tryz.func60 rfl {} ?_;by_cases h:x.1=y.1
 ·simp [go_sem,h]
  exact .hf _ (HF.sc _)
 ·simp [go_sem,h,zL h]
  exact .hf _ (HF.sc _)
theorem eq7U (x y:ByteArray×Nd):qt Tryz.prog 63 [.agg (cFa x),.agg (cFa y)] (aB (decide (x.1=y.1))):=by
 refine qSQ Tryz.call63 Tryz.func63 rfl {} ?_;by_cases h:x.1=y.1
 ·simp [go_sem,h]
  exact .hf _ (HF.sc _)
 ·simp [go_sem,h,zL h]
  exact .hf _ (HF.sc _)
abbrev cDg (d:Dg):List AV:=[aI d.1,aI d.2]
def blkO:AV→Option Nat
 | .sl b _ _ _=>some b
 |_=>none
structure jk (b:Nat) (mu:Mu) (av:AV) (xs:List Dg):Prop where
 cell:mu[b]?=some (.arr [av])
 own:Own mu 2 av (xs.map cDg)
 ne:blkO av≠some b
structure Fr (b:Nat) (mu:Mu) (av:AV) (mu':Mu) (av':AV):Prop where
 len:mu.length≤mu'.length
 same:∀ i,i<mu.length→i≠b→blkO av≠some i→mu'[i]?=mu[i]?∧blkO av'≠some i
theorem Fr.refl (b:Nat) (mu:Mu) (av:AV):Fr b mu av mu av:=⟨qB _,fun i _ _ h=>⟨rfl,h⟩⟩
theorem Fr.trans {b:Nat} {mu mu' mu'':Mu} {av av' av'':AV} (h:Fr b mu av mu' av') (h':Fr b mu' av' mu'' av''):Fr b mu av mu'' av'':=
 ⟨yZ h.len h'.len,fun i hi hb ha=>by
  obtain ⟨e1,n1⟩:=h.same i hi hb ha;obtain ⟨e2,n2⟩:=h'.same i (u7 hi h.len) hb n1;exact ⟨e2.trans e1,n2⟩⟩
theorem jk.push {b:Nat} {mu:Mu} {av:AV} {xs:List Dg} (h:jk b mu av xs) (l:List Cell):jk b (mu++l) av xs∧Fr b mu av (mu++l) av:=by
 refine ⟨⟨by rw [qz (qv.1 h.cell).1];exact h.cell,?_,h.ne⟩,by simp,fun i hi _ hn=>⟨by rw [qz hi],hn⟩⟩;rcases h.own with rfl | ⟨c,rfl,hc⟩
 ·exact .inl rfl
 ·exact .inr ⟨c,rfl,by rw [qz (qv.1 hc).1];exact hc⟩
theorem jk.app {b:Nat} {mu:Mu} {av:AV} {xs:List Dg} (h:jk b mu av xs) (d:Dg) (hl:xs.length≤100000) {K:AV→Mu→Prop}
  (k:∀ av' mu',Own mu' 2 av' ((xs++[d]).map cDg)→(∀ i,i<mu.length→blkO av≠some i→mu'[i]?=mu[i]?)→(∀ c,blkO av'=some c→c=mu.length)→mu.length≤mu'.length→K av' mu') :
  zo Tryz.prog mu #[36,36] av (.lst true [cDg d]) K:=by
 have hrows:∀ l:List Dg,zC 2 (l.map cDg):=fun l r hr=>by
  obtain ⟨n,_,rfl⟩:=qE.1 hr;exact ⟨rfl,rfl⟩
 refine .inl ?_;refine ⟨_,_,44,2,16,[cDg d],rfl,by simp [go_sem],by simp [go_sem],⟨.agg [aI 0,aI 0],by simp [go_sem],rfl,rfl⟩,by omega,by omega,by simp [zf],hrows [d],?_⟩;rcases h.own with rfl | ⟨c,rfl,hc⟩
 ·refine .inl ⟨_,rfl,hrows xs,by simp;omega,fun h=>absurd h (by simp),fun _=>?_⟩
  refine k _ _ (.inr ⟨mu.length,by simp,by simp⟩) (fun i hi _=>?_) (fun b h=>by cases h;rfl) (by simp);rw [qz hi]
 ·have hfl:=jp (hrows xs).ok
  refine .inr ⟨c,_,_,rfl,hc,by omega,by simp;omega,?_⟩;have htk:(xs.map cDg).flatten.take ((xs.map cDg).length*2)=(xs.map cDg).flatten:=y5 (by omega);refine k _ _ (.inr ⟨mu.length,by simp,?_⟩) (fun i hi hne=>?_) (fun b h=>by cases h;rfl) (by simp)
  ·rw [htk,zl (by simp)];simp
  ·rw [qz (by simpa using hi)]
   rw [qL (fun e=>hne (by rw [e];rfl))]
theorem qdM {sz:Nat} {mu:Mu} {av:AV} {xs:List (List AV)} (h:Own mu sz av xs):av.one=true:=by
 rcases h with rfl | ⟨b,rfl,_⟩<;>rfl
theorem qdN {sz:Nat} {mu:Mu} {av:AV} {xs:List (List AV)} (h:Own mu sz av xs):av.cells=[av]:=by
 rcases h with rfl | ⟨b,rfl,_⟩<;>rfl
theorem qdO {sz:Nat} {mu:Mu} {av:AV} {xs:List (List AV)} (h:Own mu sz av xs) {i:Nat} {c:Cell} (hi:blkO av≠some i):Own (mu.set i c) sz av xs:=by
 rcases h with rfl | ⟨b,rfl,hc⟩
 ·exact .inl rfl
 ·exact .inr ⟨b,rfl,by rw [qL (fun e=>hi (by rw [e];rfl))];exact hc⟩
theorem kw {b:Nat} {mu:Mu} {av:AV} {xs:List Dg} (h:jk b mu av xs) (d:Dg) (hl:xs.length≤100000):qW Tryz.prog 50 [.agg (cDg d),.ptr b 0] mu fun e mu'=>e = .ret (.tup [])∧∃ av',jk b mu' av' (xs++if d.1=0 then [] else [d])∧Fr b mu av mu' av':=by
 refine qSW Tryz.call50 Tryz.func50 rfl {} ?_;by_cases h0:d.1=0
 ·simp [go_sem,h0]
  exact ⟨av,h,Fr.refl _ _ _⟩
 ·simp [go_sem,h0,h.cell]
  refine h.app d hl fun av' mu' ho hm hb hlen=>?_
  have hbl:b<mu.length:=(qv.1 h.cell).1;have hcell:mu'[b]?=some (.arr [av]):=by rw [hm b hbl h.ne];exact h.cell
  have hbl':b<mu'.length:=by omega
  have hone:=qdM ho;have hcells:=qdN ho;simp [go_sem,hcell,hone,hcells];refine ⟨av',⟨zd hbl',qdO ho fun e=>by have:=hb b e;omega,fun e=>by have:=hb b e;omega⟩,by simpa using hlen,fun i hi hne hna=>⟨?_,fun e=>by have:=hb i e;omega⟩⟩;rw [qL (fun e=>hne e.symm)];exact hm i hi hna
def dups (l:List Bool):List Dg:=(l.filter id).map fun _=>(41,0)
theorem qdP {b r:Nat} {mu:Mu} {av:AV} {xs:List Dg} (h:jk b mu av xs) (l:List Bool) (hl:xs.length+l.length≤100000) (hr:mu[r]?=some (.arr [.fn (.func 50) [] [.ptr b 0]])) :
  qW Tryz.prog 51 [lB l,.ptr r 0] mu fun e mu'=>e = .ret (.tup [])∧∃ av',jk b mu' av' (xs++dups l)∧Fr b mu av mu' av':=by
 refine qSW Tryz.call51 Tryz.func51 rfl {} ?_;have hrl:r<mu.length:=(qv.1 hr).1;have hrb:r≠b:=fun e=>by
  rw [e,h.cell] at hr;injection hr with hr;injection hr with hr;injection hr with hr _;rcases h.own with ho | ⟨_,ho,_⟩<;>rw [ho] at hr<;>cases hr
 have hra:blkO av≠some r:=fun e=>by
  rcases h.own with ho | ⟨c,ho,hc⟩
  ·rw [ho] at e;cases e
  ·rw [ho] at e;cases e
   rw [hr] at hc;injection hc with hc;injection hc with hc;have:((xs.map cDg).flatten).length=xs.length*2:=by simpa using jp (sz:=2) (xs:=xs.map cDg) fun r hr=>by obtain ⟨_,_,rfl⟩:=qE.1 hr;rfl
   rw [←hc] at this;simp at this;omega
 simp [go_sem];refine qD.upK l.length (fun k st=>st.tm 1 = .ptr r 0∧st.tm 5=lB l∧st.tm 6=aI l.length∧st.tm 7=aI k∧∃ av',jk b st.mu av' (xs++dups (l.take k))∧Fr b mu av st.mu av') ?_ ?_
 ·exact ⟨by simp [go_sem],by simp [go_sem],by simp [go_sem],by simp [go_sem],av,by simpa [dups,go_sem] using h,by simpa [go_sem] using Fr.refl b mu av⟩
 ·rintro k st hk ⟨e1,e5,e6,e7,av',ho,hf⟩
  obtain ⟨hr',hra'⟩:=hf.same r hrl hrb hra;rw [hr] at hr';by_cases hkl:k=l.length
  ·subst hkl
   rw [jC] at ho;simp [go_sem,e1,e5,e6,e7];exact ⟨av',ho,hf⟩
  ·have hlt:k<l.length:=by omega
   have w1:IntKind.i64.wrap ((k:Int)+1)=(k:Int)+1:=qy (by omega) (by omega);have hd:dups (l.take (k+1))=dups (l.take k)++if l[k]=true then [(41,0)] else []:=by
    rw [List.take_add_one,qX hlt];cases h:l[k]<;>simp [dups,h]
   have hdl:(dups (l.take k)).length≤k:=by
    unfold dups;rw [jn];exact yZ (List.length_filter_le _ _) (by simp;omega)
   cases hlk:l[k] with
   |false =>
    rw [hlk] at hd;simp [go_sem,e1,e5,e6,e7,hlt,hlk,w1];refine Keep.mk' ⟨by simp [go_sem,e1],by simp [go_sem,e5],by simp [go_sem,e6],by simp [go_sem],av',?_,by simpa [go_sem] using hf⟩;rw [hd];simpa [go_sem] using ho
   |true =>
    rw [hlk] at hd;simp [go_sem,e1,e5,e6,e7,hlt,hlk,hr'];refine qc.eff (kw ho (41,0) (by simp;omega)) ?_ ?_
    ·rintro x m ⟨ex,av'',ho2,hf2⟩
     cases ex;simp [go_sem,e1,e5,e6,e7,w1];refine ⟨hlt,Keep.mk' ?_⟩;refine ⟨by simp [go_sem,e1],by simp [go_sem,e5],by simp [go_sem,e6],by simp [go_sem],av'',?_,by simpa [go_sem] using hf.trans hf2⟩;rw [hd];simpa [go_sem] using ho2
    ·rintro x m ⟨ex,_⟩;cases ex
def repB {α:Type} (eqv:α→α→Bool) (l:List α) (i:Nat):List Bool:=((repL eqv l).take (i+1)).drop i
def rp (d:Dg):List Dg:=if d.1=0 then [] else [d]
def je (ts:TS) (i:Nat):List Dg:=match ts.preds[i]? with
 |some p=>dups (repB (fun x y:Pd=>decide (x.name=y.name)) ts.preds i)++(dups (repL (fun x y:ByteArray×Int=>decide (x.1=y.1)) p.params)++rp (jd (mkCk ts i) p.params p.body))
 |none=>[]
def jK (ts:TS) (fa:List (ByteArray×Nd)) (i:Nat):List Dg:=match fa[i]? with
 |some f=>dups (repB (fun x y:ByteArray×Nd=>decide (x.1=y.1)) fa i)++rp (yK ts [] f.2)
 |none=>[]
def jf (ts:TS):List Dg:=
 dups (repL (fun x y:ByteArray×Bool=>decide (x.1=y.1)) ts.sorts)++(dups (repL (fun x y:Fld=>decide (x.name=y.name)&&decide (x.sorts=y.sorts)) ts.fields) ++
  ((List.range ts.preds.length).flatMap (je ts)++(List.range ts.facts.length).flatMap (jK ts ts.facts)))
abbrev lDg (l:List Dg):AV := .lst false (l.map cDg)
abbrev repF:AV := .fn (.func 50) [] [.ptr 0 0]
abbrev twF:AV := .fn (.func 51) [] [.ptr 1 0]
theorem jk.rep {mu:Mu} {av:AV} {xs:List Dg} (h:jk 0 mu av xs) (h1:mu[1]?=some (.arr [repF])):blkO av≠some 1:=fun e=>by
 rcases h.own with ho | ⟨c,ho,hc⟩
 ·rw [ho] at e;cases e
 ·rw [ho] at e;cases e
  rw [h1] at hc;injection hc with hc;injection hc with hc;have:((xs.map cDg).flatten).length=xs.length*2:=by simpa using jp (sz:=2) (xs:=xs.map cDg) fun r hr=>by obtain ⟨_,_,rfl⟩:=qE.1 hr;rfl
  rw [←hc] at this;simp at this;omega
theorem Yw {mu:Mu} {av:AV} {xs:List Dg} {l:List Bool} (h:jk 0 mu av xs) (h1:mu[1]?=some (.arr [repF])) (hl:xs.length+l.length≤100000) {K Kp:AV→Mu→Prop}
  (k:∀ av' mu',jk 0 mu' av' (xs++dups l)→mu'[1]?=some (.arr [repF])→Fr 0 mu av mu' av'→K (.tup []) mu'):qc Tryz.prog false mu twF [lB l] K Kp:=by
 refine qc.eff (qdP h l hl h1) ?_ ?_
 ·rintro x m ⟨ex,av',ho,hf⟩
  cases ex;have hlt:1<mu.length:=(qv.1 h1).1;exact k av' m ho (((hf.same 1 hlt (by omega) (h.rep h1)).1).trans h1) hf
 ·rintro x m ⟨ex,_⟩;cases ex
theorem kx {mu:Mu} {av:AV} {xs:List Dg} (d:Dg) (h:jk 0 mu av xs) (h1:mu[1]?=some (.arr [repF])) (hl:xs.length≤100000) {K Kp:AV→Mu→Prop}
  (k:∀ av' mu',jk 0 mu' av' (xs++rp d)→mu'[1]?=some (.arr [repF])→Fr 0 mu av mu' av'→K (.tup []) mu'):qc Tryz.prog false mu repF [.agg (cDg d)] K Kp:=by
 refine qc.eff (kw h d hl) ?_ ?_
 ·rintro x m ⟨ex,av',ho,hf⟩
  cases ex;have hlt:1<mu.length:=(qv.1 h1).1;exact k av' m ho (((hf.same 1 hlt (by omega) (h.rep h1)).1).trans h1) hf
 ·rintro x m ⟨ex,_⟩;cases ex
theorem jz (l:List Bool):(dups l).length≤l.length:=by
 unfold dups;rw [jn];exact List.length_filter_le _ _
theorem Wp (d:Dg):(rp d).length≤1:=by unfold rp;split<;>simp
theorem Yx (f:FuncId):HF (.fn (.func f) [] []):=HF.fn (fun c hc=>by simp at hc) (fun c hc=>by simp at hc)
abbrev eqS1 (x y:ByteArray×Bool):Bool:=decide (x.1=y.1)
abbrev eqF1 (x y:Fld):Bool:=decide (x.name=y.name)&&decide (x.sorts=y.sorts)
abbrev eqP1 (x y:Pd):Bool:=decide (x.name=y.name)
abbrev eqM1 (x y:ByteArray×Int):Bool:=decide (x.1=y.1)
abbrev eqA1 (x y:ByteArray×Nd):Bool:=decide (x.1=y.1)
theorem ky {sz:Nat} {mu:Mu} {av:AV} {xs:List (List AV)} (h:Own mu sz av xs):blkO av≠some mu.length:=by
 rcases h with rfl | ⟨b,rfl,hc⟩
 ·intro e;cases e
 ·intro e;cases e
  have:=(qv.1 hc).1;omega
theorem Qi (f:Nat→List Dg) (hf:∀ i,(f i).length≤10):∀ k,((List.range k).flatMap f).length≤10*k
 | 0=>by simp
 |k+1=>by
  rw [List.range_succ,List.flatMap_append,zr];have:=Qi f hf k;have:=hf k;simp only [u9,List.flatMap_nil,ye];omega
theorem Vd {α:Type} (eqv:α→α→Bool) (l:List α) (i:Nat):(repB eqv l i).length≤1:=by
 unfold repB;rw [List.length_drop,List.length_take];omega
theorem Ve {ts:TS} (h:okTS ts) (i:Nat):(je ts i).length≤10:=by
 unfold je;split
 ·rename_i p hp
  have h1:=(h.pl p (ze hp)).1;have h2:=jz (repB (fun x y:Pd=>decide (x.name=y.name)) ts.preds i);have h3:=Vd (fun x y:Pd=>decide (x.name=y.name)) ts.preds i;have h4:=jz (repL (fun x y:ByteArray×Int=>decide (x.1=y.1)) p.params);rw [yQ] at h4;have h5:=Wp (jd (mkCk ts i) p.params p.body);simp only [zr];omega
 ·simp
theorem Wq (ts:TS) (fa:List (ByteArray×Nd)) (i:Nat):(jK ts fa i).length≤10:=by
 unfold jK;split
 ·rename_i f hf
  have h2:=jz (repB (fun x y:ByteArray×Nd=>decide (x.1=y.1)) fa i);have h3:=Vd (fun x y:ByteArray×Nd=>decide (x.1=y.1)) fa i;have h5:=Wp (yK ts [] f.2);simp only [zr];omega
 ·simp
theorem kz (ts:TS) (h:okTS ts) (hp:∀ p,p∈ts.preds→WfN p.body) (hf:∀ f,f∈ts.facts→WfN f.2):qt Tryz.prog 19 [eTS ts] (lDg (jf ts)):=by
 refine qSQ Tryz.call19 Tryz.func19 rfl {} ?_;simp [go_sem];have hns:=h.ns;have hnf:=h.nf;have hnp:=h.np;have hnfa:=h.nfa;refine qc.pure (qdA _ eqS1 ts.sorts (fun x y _ _=>eq3U x y) (by omega)) (.cons (.hf (w6 _)) (.cons (.hf (Yx _)) .nil)) ?_;simp [go_sem];have h0:jk 0 [.arr [.lst true []],.arr [repF]] (.lst true []) []:=⟨rfl,.inl rfl,by simp [blkO]⟩;have l1:=jz (repL eqS1 ts.sorts);have l2:=jz (repL eqF1 ts.fields);rw [yQ] at l1 l2;refine Yw h0 rfl (by simp [yQ];omega) fun av1 mu1 o1 r1 f1=>?_
 simp [go_sem];refine qc.pure (qdC _ eqF1 ts.fields (fun x y hx _=>eq4U x y (by have:=(h.fl x hx).2.1;omega)) (by omega)) (.cons (.hf (w7 _)) (.cons (.hf (Yx _)) .nil)) ?_;simp [go_sem];refine Yw o1 r1 (by simp [yQ];omega) fun av2 mu2 o2 r2 f2=>?_
 simp [go_sem];refine qc.pure (qdG _ eqP1 ts.preds (fun x y _ _=>eq5U x y) (by omega)) (.cons (.hf (ua _)) (.cons (.hf (Yx _)) .nil)) ?_;simp [go_sem];simp only [List.nil_append] at o2;generalize hbase:dups (repL eqS1 ts.sorts)++dups (repL eqF1 ts.fields)=base at o2;have hbl:base.length≤10:=by rw [←hbase,zr];omega
 refine qD.upK ts.preds.length (fun k st=>∃ av,st.tm 1 = .ip (cTS ts)∧st.tm 3 = .ptr 0 0∧st.tm 4 = .ptr 1 0∧st.tm 5=twF∧st.tm 6=lB (repL eqP1 ts.preds)∧st.tm 28=lPd ts.preds∧st.tm 29=aI ts.preds.length∧st.tm 30=aI k ∧
  jk 0 st.mu av (base++(List.range k).flatMap (je ts))∧st.mu[1]?=some (.arr [repF])) ?_ ?_
 ·refine ⟨av2,by simp [go_sem],by simp [go_sem],by simp [go_sem],by simp [go_sem],by simp [go_sem],by simp [go_sem],by simp [go_sem],by simp [go_sem],by simpa [go_sem] using o2,by simpa [go_sem] using r2⟩
 ·rintro k st hk ⟨av,e1,e3,e4,e5,e6,e28,e29,e30,ho,hr⟩
  have hfl:=Qi (je ts) (fun i=>Ve h i) k;by_cases hkl:k=ts.preds.length
  ·subst hkl
   simp [go_sem,e1,e3,e4,e5,e6,e28,e29,e30];refine qc.pure (qdK _ eqA1 ts.facts (fun x y _ _=>eq7U x y) (by omega)) (.cons (.hf (Zn _)) (.cons (.hf (Yx _)) .nil)) ?_;simp [go_sem,e1,e3,e4,e5,e6,e28,e29,e30];generalize hbase2:base++(List.range ts.preds.length).flatMap (je ts)=base2 at ho;have hbl2:base2.length≤100:=by rw [←hbase2,zr];omega
   refine qD.upK ts.facts.length (fun k st=>∃ av,st.tm 1 = .ip (cTS ts)∧st.tm 3 = .ptr 0 0∧st.tm 4 = .ptr 1 0∧st.tm 5=twF∧st.tm 9=lB (repL eqA1 ts.facts)∧st.tm 62=lFa ts.facts∧st.tm 63=aI ts.facts.length∧st.tm 64=aI k ∧
    jk 0 st.mu av (base2++(List.range k).flatMap (jK ts ts.facts))∧st.mu[1]?=some (.arr [repF])) ?_ ?_
   ·refine ⟨av,by simp [go_sem,e1],by simp [go_sem,e3],by simp [go_sem,e4],by simp [go_sem,e5],by simp [go_sem],by simp [go_sem],by simp [go_sem],by simp [go_sem],by simpa [go_sem] using ho,by simpa [go_sem] using hr⟩
   ·clear ho hr hfl e1 e3 e4 e5 e6 e28 e29 e30 st av hk
    rintro k st hk ⟨av,e1,e3,e4,e5,e9,e62,e63,e64,ho,hr⟩;have hfl:=Qi (jK ts ts.facts) (fun i=>Wq ts ts.facts i) k;by_cases hkl:k=ts.facts.length
    ·subst hkl
     simp [go_sem,e1,e3,e4,e5,e9,e62,e63,e64,ho.cell];have hck:jf ts=base2++(List.range ts.facts.length).flatMap (jK ts ts.facts):=by
      rw [←hbase2,←hbase];simp only [jf,zW]
     rw [hck];refine Own.rd (sz:=2) ho.own (fun r hr=>?_) fun r hr c hc=>?_
     ·obtain ⟨d,_,rfl⟩:=qE.1 hr;rfl
     ·obtain ⟨d,_,rfl⟩:=qE.1 hr
      simp at hc;rcases hc with rfl | rfl<;>exact HF.sc _
    ·have hlt:k<ts.facts.length:=by omega
     have w1:IntKind.i64.wrap ((k:Int)+1)=(k:Int)+1:=qy (by omega) (by omega);simp [go_sem,e1,e3,e4,e5,e9,e62,e63,e64,hlt,w1];have hrs:yD 1 ((repL eqA1 ts.facts).map fun b=>[aB b]):=fun r hr=>by
      obtain ⟨b,_,rfl⟩:=qE.1 hr;rfl
     refine ⟨⟨_,_,⟨rfl,rfl⟩,hrs⟩,?_⟩;rw [if_pos ⟨by omega,by rw [yQ];omega⟩];simp [go_sem];have hsl:AV.lst false (List.drop k (List.take (k+1) ((repL eqA1 ts.facts).map fun b=>[aB b])))=lB (repB eqA1 ts.facts k):=by
      simp only [repB,lB,List.map_drop,List.map_take]
     rw [hsl];obtain ⟨oP,fP⟩:=ho.push [.arr (cFa ts.facts[k])];have rP:(st.mu++[.arr (cFa ts.facts[k])])[1]?=some (.arr [repF]):=by rw [qz (qv.1 hr).1];exact hr
     have gP:(st.mu++[.arr (cFa ts.facts[k])])[st.mu.length]?=some (.arr (cFa ts.facts[k])):=by simp
     have nP:blkO av≠some st.mu.length:=ky ho.own;have zP:st.mu.length≠0:=by have:=(qv.1 hr).1;omega
     have q1:=jz (repB eqA1 ts.facts k);have q2:=Vd eqA1 ts.facts k;refine Yw oP rP (by simp only [zr];omega) fun av3 mu3 o3 r3 f3=>?_
     obtain ⟨g3,n3⟩:=f3.same st.mu.length (by simp) zP nP;rw [gP] at g3;have hwf:=hf ts.facts[k] (qJ hlt);simp [go_sem,e1,e3,e4,e5,e9,e62,e63,e64,g3,r3];refine qx.tail 5 (by kernel_rfl) ?_;simp [go_sem,e1,e3,e4,e5,e9,e62,e63,e64,g3,r3];refine qc.pure (Qg ts h hp ts.facts[k].2 hwf [] ⟨by simp,fun p hp=>absurd hp zb⟩) (.cons (.hf (zq ts)) (.cons (WK.lst fun r hr=>absurd hr zb) (.cons (.hf (qO _)) .nil))) ?_;simp [go_sem,e1,e3,e4,e5,e9,e62,e63,e64,g3,r3];refine kx (yK ts [] ts.facts[k].2) o3 r3 (by simp only [zr];omega) fun av5 mu5 o5 r5 f5=>?_
     simp [go_sem,e1,e3,e4,e5,e9,e62,e63,e64,w1];refine ⟨hlt,Keep.mk' ?_⟩;refine ⟨av5,by simp [go_sem,e1],by simp [go_sem,e3],by simp [go_sem,e4],by simp [go_sem,e5],by simp [go_sem,e9],by simp [go_sem,e62],by simp [go_sem,e63],by simp [go_sem],?_,by simpa [go_sem] using r5⟩;have e:(List.range (k+1)).flatMap (jK ts ts.facts)=(List.range k).flatMap (jK ts ts.facts)++(dups (repB eqA1 ts.facts k)++rp (yK ts [] ts.facts[k].2)):=by
      rw [List.range_succ,List.flatMap_append];simp only [u9,List.flatMap_nil,ye,jK,qX hlt]
     rw [e];simpa [go_sem,zW] using o5
  ·have hlt:k<ts.preds.length:=by omega
   have w1:IntKind.i64.wrap ((k:Int)+1)=(k:Int)+1:=qy (by omega) (by omega);simp [go_sem,e1,e3,e4,e5,e6,e28,e29,e30,hlt,w1];have hrs:yD 1 ((repL eqP1 ts.preds).map fun b=>[aB b]):=fun r hr=>by
    obtain ⟨b,_,rfl⟩:=qE.1 hr;rfl
   refine ⟨⟨_,_,⟨rfl,rfl⟩,hrs⟩,?_⟩;rw [if_pos ⟨by omega,by rw [yQ];omega⟩];simp [go_sem];have hsl:AV.lst false (List.drop k (List.take (k+1) ((repL eqP1 ts.preds).map fun b=>[aB b])))=lB (repB eqP1 ts.preds k):=by
    simp only [repB,lB,List.map_drop,List.map_take]
   rw [hsl];have hpm:=(h.pl ts.preds[k] (qJ hlt)).1;obtain ⟨oP,fP⟩:=ho.push [.arr (cPd ts.preds[k])];have rP:(st.mu++[.arr (cPd ts.preds[k])])[1]?=some (.arr [repF]):=by rw [qz (qv.1 hr).1];exact hr
   have gP:(st.mu++[.arr (cPd ts.preds[k])])[st.mu.length]?=some (.arr (cPd ts.preds[k])):=by simp
   have nP:blkO av≠some st.mu.length:=ky ho.own;have zP:st.mu.length≠0:=by have:=(qv.1 hr).1;omega
   have q1:=jz (repB eqP1 ts.preds k);have q2:=Vd eqP1 ts.preds k;have q3:=jz (repL eqM1 ts.preds[k].params);rw [yQ] at q3;refine Yw oP rP (by simp only [zr];omega) fun av3 mu3 o3 r3 f3=>?_
   obtain ⟨g3,n3⟩:=f3.same st.mu.length (by simp) zP nP;rw [gP] at g3;have hl3:st.mu.length<mu3.length:=(qv.1 g3).1;simp [go_sem,e1,e3,e4,e5,e6,e28,e29,e30,g3];refine qc.pure (qdI _ eqM1 ts.preds[k].params (fun x y _ _=>eq6U x y) (by omega)) (.cons (.hf (jJ _)) (.cons (.hf (Yx _)) .nil)) ?_;simp [go_sem];refine Yw o3 r3 (by simp only [zr,yQ];omega) fun av4 mu4 o4 r4 f4=>?_
   obtain ⟨g4,n4⟩:=f4.same st.mu.length hl3 zP n3;rw [g3] at g4;simp [go_sem,e1,e3,e4,e5,e6,e28,e29,e30,g4];have hwp:=hp ts.preds[k] (qJ hlt);have hpe:=h.pl ts.preds[k] (qJ hlt);refine qx.tail 9 (by kernel_rfl) ?_;simp [go_sem,e1,e3,e4,e5,e6,e28,e29,e30,g4,r4];refine qc.pure (We ts h (fun p hq=>(hp p hq).small) k (by omega)) (.cons (.hf (zq ts)) (.cons (.hf (HF.sc _)) .nil)) ?_;simp [go_sem,e1,e3,e4,e5,e6,e28,e29,e30,g4,r4];refine qc.pure (UR (mkCk ts k) (vO h (by omega)) ts.preds[k].body hwp ts.preds[k].params ⟨by omega,hpe.2⟩) (.cons (.hf (yV _)) (.cons (.hf (jJ _)) (.cons (.hf (qO _)) .nil))) ?_;simp [go_sem,e1,e3,e4,e5,e6,e28,e29,e30,g4,r4];refine kx (jd (mkCk ts k) ts.preds[k].params ts.preds[k].body) o4 r4 (by simp only [zr];omega) fun av5 mu5 o5 r5 f5=>?_
   simp [go_sem,e1,e3,e4,e5,e6,e28,e29,e30,w1];refine ⟨hlt,Keep.mk' ?_⟩;refine ⟨av5,by simp [go_sem,e1],by simp [go_sem,e3],by simp [go_sem,e4],by simp [go_sem,e5],by simp [go_sem,e6],by simp [go_sem,e28],by simp [go_sem,e29],by simp [go_sem],?_,by simpa [go_sem] using r5⟩;have e:(List.range (k+1)).flatMap (je ts)=(List.range k).flatMap (je ts)++(dups (repB eqP1 ts.preds k)++(dups (repL eqM1 ts.preds[k].params)++rp (jd (mkCk ts k) ts.preds[k].params ts.preds[k].body))):=by
    rw [List.range_succ,List.flatMap_append];simp only [u9,List.flatMap_nil,ye,je,qX hlt]
   rw [e];simpa [go_sem,zW] using o5
end Go.Proofs.YtcfopdccdeeleaaGreatDoor.Y16


namespace Go.Proofs.YtcfopdccdeeleaaGreatDoor.YU
open Go Go.Ev Go.RowKit Go.Proofs Go.Proofs.YtcfopdccdeeleaaGreatDoor.Y16
theorem qdQ {w w':World} (h:wM w.heap.size w w'):∃ q os,w'=Sort.grow (w.drewN q) os:=by
 refine ⟨w'.drawn-w.drawn,w'.heap.extract w.heap.size w'.heap.size,?_⟩;have hd:=h.drawn;have hh:w'.heap=w.heap++w'.heap.extract w.heap.size w'.heap.size:=by
  apply Array.ext_getElem?;intro i;by_cases hi:i<w.heap.size
  ·rw [Array.getElem?_append_left hi,h.block i hi]
  ·rw [Array.getElem?_append_right (by omega),Array.getElem?_extract]
   have hs:=h.size;have e:w.heap.size+(i-w.heap.size)=i:=by omega
   rw [e];by_cases hi2:i<w'.heap.size
   ·rw [if_pos (by omega)]
   ·rw [if_neg (by omega),Array.getElem?_eq_none (by omega)]
 obtain ⟨heap',tape',drawn',os',out'⟩:=w';obtain ⟨heap,tape,drawn,os,out⟩:=w;have h1:=h.os;have h2:=h.tape;have h3:=h.output;simp only at h1 h2 h3 hd hh;subst h1;subst h2;subst h3;simp only [Sort.grow,World.drewN,World.mk.injEq,and_true,true_and];exact ⟨hh,by omega⟩
theorem qdR {P:Program} {f g:FuncId} (hcal:jE P f) {β:Type} (c:β→AV) (hone:∀ x,(c x).one=true) (ord:β→β→Int) (hf:∀ x,HF (c x))
  (m:Nat) (ms:List β) (hm:ms.length=m+1) (hbig:m+1<4611686018427387904)
  (hcmp:∀ x y,x∈ms→y∈ms→qt P g [c x,c y] (.sc (.int .i64 (ord x y))))
  (hirr:∀ x,x∈ms→¬ord x x<0) (htr:∀ x y z,x∈ms→y∈ms→z∈ms→ord x y<0→ord y z<0→ord x z<0) (hnt:∀ x y z,x∈ms→y∈ms→z∈ms→¬ord x y<0→¬ord y z<0→¬ord x z<0)
  (hsort:∀(enc:Fin (m+1)→Value),(∀ x,(enc x).oneCell'=true)→∀(cf:Fin (m+1)→Fin (m+1)→Int),Sort.SWO (Proofs.ltOf cf)→∀(cb:Array Value) (blk off cap:Nat) (d:Array (Fin (m+1))) (w:World),
   Proofs.CmpLays1 P g cb enc cf blk off d.size w→Sort.Holds enc w blk off d→blk<w.heap.size→d.size<4611686018427387904 →
   Calls P f #[.slice (some ⟨blk,off,none⟩) d.size cap,.func (.func g) #[] cb] w fun e w' =>
    e = .returned (.tuple #[])∧∃ d' n os,Sort.PermIn 0 d.size d d'∧Sort.SortedIn (Proofs.ltOf cf) 0 d.size d'∧w'=Proofs.sortWorld enc w blk off n d' os)
  {mu:Mu} {b:Nat} (hc:mu[b]?=some (.arr (ms.map c))) :
  qW P f [.sl b 1 0 ms.length,.fn (.func g) [] []] mu fun e mu'=>e = .ret (.tup [])∧∃ ms':List β,ms'.Perm ms∧ms'.Pairwise (fun x y=>¬ord y x<0)∧mu'=mu.set b (.arr (ms'.map c)):=by
 refine ⟨hcal,fun G w vs s ra=>?_⟩;obtain ⟨u,fv,rfl,ru,rf⟩:=ra.two_inv;cases ru with
 |sl _ _ _ _ blk tot cap hb ht hlc =>
 cases rf with
 |fn _ _ _ fvs cvs hfn hcn hfv hcv =>
 have e0:fvs=#[]:=Array.eq_empty_of_size_eq_zero (by simpa using hfn);have e1:cvs=#[]:=Array.eq_empty_of_size_eq_zero (by simpa using hcn);subst e0;subst e1;obtain ⟨arr,el,h1,h2,h3,h4⟩:=s.arr b _ blk tot hc hb;have hblk:blk<w.heap.size:=(Array.getElem?_eq_some_iff.1 h1).1;have hat:∀(i:Nat) (hi:i<ms.length),VRel G w.heap (c ms[i]) (arr.getD i undef):=by
  intro i hi;have:=h4 i (c ms[i]) (by simp [hi]);exact this.2
 have hlive:Live G mu blk:=⟨b,_,tot,hc,by simp,hb⟩;have hni:¬G.imm blk:=s.live b _ blk tot hc (by simp) hb;generalize henc:(fun i:Fin (m+1)=>arr.getD i.val undef)=enc;have hence:∀ i:Fin (m+1),enc i=arr.getD i.val undef:=fun i=>by rw [←henc]
 have hil:∀ i:Fin (m+1),i.val<ms.length:=fun i=>by have:=i.isLt;omega
 have henc1:∀ x,(enc x).oneCell'=true:=by
  intro x;rw [hence];exact (hat x.val (hil x)).one (hone _)
 generalize hcf:(fun x y:Fin (m+1)=>ord (ms[x.val]'(hil x)) (ms[y.val]'(hil y)))=cf;have hcfe:∀ x y:Fin (m+1),cf x y=ord (ms[x.val]'(hil x)) (ms[y.val]'(hil y)):=fun x y=>by rw [←hcf]
 have hmem:∀ x:Fin (m+1),ms[x.val]'(hil x)∈ms:=fun x=>qJ _
 have hswo:Sort.SWO (Proofs.ltOf cf):=by
  refine ⟨fun x=>?_,fun x y z g1 g2=>?_,fun x y z g1 g2=>?_⟩
  ·simp only [Proofs.ltOf,hcfe,decide_eq_false_iff_not];exact hirr _ (hmem x)
  ·simp only [Proofs.ltOf,hcfe,decide_eq_true_eq] at *;exact htr _ _ _ (hmem x) (hmem y) (hmem z) g1 g2
  ·simp only [Proofs.ltOf,hcfe,decide_eq_false_iff_not] at *;exact hnt _ _ _ (hmem x) (hmem y) (hmem z) g1 g2
 have hcmpL:Proofs.CmpLays1 P g #[] enc cf blk 0 (m+1) w:=by
  intro m' os dk hdk x y;generalize hW:Proofs.sortWorld enc w blk 0 m' dk os=W;have hWh:W.heap=w.heap.modify blk (Sort.onCells (Sort.putCells enc 0 dk))++os:=by rw [←hW];rfl
  have hWsz:w.heap.size≤W.heap.size:=by rw [hWh];simp
  have hWget:∀ b',b'≠blk→b'<w.heap.size→W.heap[b']?=w.heap[b']?:=by
   intro b' hne hlt;rw [hWh,Array.getElem?_append_left (by simpa using hlt),Array.getElem?_modify,if_neg (fun e=>hne e.symm)]
  have hle:Ext ⟨G.imm,[]⟩ w.heap W.heap:=⟨hWsz,fun b' hb'=>hWget b' (fun e=>hni (e ▸ hb')) (s.imm b' hb')⟩;have agg:∀ z:Fin (m+1),VRel ⟨G.imm,[]⟩ W.heap (c (ms[z.val]'(hil z))) (enc z):=by
   intro z;rw [hence];exact (hf _ G w.heap _ (hat z.val (hil z))).ext hle
  have rargs:zX ⟨G.imm,[]⟩ W.heap [c (ms[x.val]'(hil x)),c (ms[y.val]'(hil y))] (#[enc x,enc y]++#[]):=by
   refine ⟨by simp,fun j q hq=>?_⟩
   match j,hq with
   | 0,hq=>simp at hq;subst hq;exact agg x
   | 1,hq=>simp at hq;subst hq;exact agg y
   |j+2,hq=>simp at hq
  refine ((hcmp _ _ (hmem x) (hmem y)).2 G.imm W _ (Sim.empty (fun b' hb'=>u7 (s.imm b' hb') hWsz) (s.tab.mono (fun _ h=>h) fun b' hb'=>hle.keep b' hb')) rargs).mono ?_;rintro e w' ⟨imm',v,rfl,_,_,hbel,hv⟩;rw [hcfe];obtain ⟨q,os',hw'⟩:=qdQ hbel;refine ⟨?_,q,os',hw'⟩;cases hv;rfl
 generalize hd:(List.finRange (m+1)).toArray=d;have hdsz:d.size=m+1:=by rw [←hd];simp
 have hdg:∀ t (ht:t<m+1),d[t]! = ⟨t,ht⟩:=fun t ht=>by rw [←hd];simp [ht]
 have hal:m+1≤arr.size:=by simp at h3;omega
 have hH:Sort.Holds enc w blk 0 d:=by
  intro t ht;rw [hdsz] at ht;refine ⟨?_,?_⟩
  ·rw [hdg _ ht,hence]
   simp only [World.cell?,h1,Option.isSome_none,Bool.false_eq_true,if_false,Nat.zero_add];rw [za,Array.getElem?_eq_getElem (by omega)];rfl
  ·simp only [World.frozen?,h1]
   simp
 have hrun:=hsort enc henc1 cf hswo #[] blk 0 cap d w (by rw [hdsz];exact hcmpL) hH hblk (by rw [hdsz];exact hbig);rw [hdsz] at hrun;rw [hm];refine hrun.mono ?_;rintro e w' ⟨rfl,d',n,os,⟨hp1,hp2,hp3⟩,hsrt,hw'⟩;have hd'sz:d'.size=m+1:=by rw [hp1,hdsz]
 rw [Array.extract_eq_self_of_le (by omega),Array.extract_eq_self_of_le (by omega)] at hp3;generalize hms':(d'.toList.map fun z:Fin (m+1)=>ms[z.val]'(hil z))=ms';have hms'l:ms'.length=m+1:=by rw [←hms'];simp [hd'sz]
 have hms'g:∀(i:Nat) (hi:i<m+1),ms'[i]'(by omega)=ms[(d'[i]'(by omega)).val]'(hil _):=by
  intro i hi;simp only [←hms',VJ,Array.getElem_toList]
 have hperm:ms'.Perm ms:=by
  rw [←hms'];have h1:=hp3.map fun z:Fin (m+1)=>ms[z.val]'(hil z)
  have h2:(d.toList.map fun z:Fin (m+1)=>ms[z.val]'(hil z))=ms:=by
   rw [←hd];apply List.ext_getElem
   ·simp [hm]
   ·intro i hi hi'
    simp
  rw [h2] at h1;exact h1
 have hpw:ms'.Pairwise (fun x y=>¬ord y x<0):=by
  rw [List.pairwise_iff_getElem];intro i j hi hj hij;have:=hsrt i j (wH _) hij (by omega);rw [getElem!_pos d' j (by omega),getElem!_pos d' i (by omega)] at this;simp only [Proofs.ltOf,hcfe,decide_eq_false_iff_not] at this;rw [hms'g i (by omega),hms'g j (by omega)];exact this
 -- the written row
 have hW0:∃ w1,w1=Sort.putRow enc (Sort.ahead w n) blk 0 d':=⟨_,rfl⟩;obtain ⟨w1,hw1⟩:=hW0;have hput:w1.heap[blk]?=some (.cells (Sort.putCells enc 0 d' arr) el (0,0)):=by
  rw [hw1];show (w.heap.modify blk (Sort.onCells _))[blk]?=_;rw [Array.getElem?_modify,if_pos rfl,h1];rfl
 have hoth:∀ j,j≠blk→w1.heap[j]?=w.heap[j]?:=by
  intro j hj;rw [hw1];show (w.heap.modify blk (Sort.onCells _))[j]?=_;rw [Array.getElem?_modify,if_neg (fun e=>hj e.symm)]
 have hsz1:w1.heap.size=w.heap.size:=by
  rw [hw1];show (w.heap.modify blk (Sort.onCells _)).size=_;simp
 have st1:Stp G mu w G (mu.set b (.arr (ms'.map c))) w1:=by
  refine Stp.write (hdr:=by rw [hw1];exact Nat.le_add_right _ _) s b (.arr (ms.map c)) _ blk tot _ hc (by simp) (by simp) hb hsz1 hput hoth (by rw [hw1];rfl) (by rw [hw1];rfl) (by rw [hw1];rfl) ?_;refine ⟨_,el,rfl,by simp [Sort.putCells,h2],by rw [jn,hms'l];simp at h3;omega,fun t y hy=>?_⟩;have ht:t<m+1:=by
   have:=(qv.1 hy).1;rw [jn,hms'l] at this;exact this
  have hfa:c ms[(d'[t]'(by omega)).val]=y:=by
   rw [zM,qX (by omega),hms'g _ ht] at hy;simpa using hy
  subst hfa;have hpc:(Sort.putCells enc 0 d' arr).getD t undef=arr.getD (d'[t]'(by omega)).val undef:=by
   have htl:t<arr.size:=by omega
   rw [za,Sort.putCells,Array.getElem?_mapIdx,Array.getElem?_eq_getElem htl];simp only [Option.map_some,Option.getD_some,Nat.zero_add,Nat.sub_zero,wH,true_and];rw [if_pos (by rw [hd'sz];exact ht),getElem!_pos d' t (by omega),hence]
  rw [hpc];exact ⟨hone _,hat _ (hil _)⟩
 have st2:=st1.trans s (Stp.grow st1.sim os);have hw2:w'=Sort.grow w1 os:=by rw [hw',hw1];rfl
 rw [←hw2] at st2;exact ⟨G,_,st2,.inl ⟨_,_,⟨rfl,ms',hperm,hpw,rfl⟩,rfl,.tup [] #[] rfl (by simp)⟩⟩
end Go.Proofs.YtcfopdccdeeleaaGreatDoor.YU


namespace Go.Proofs.YtcfopdccdeeleaaGreatDoor.YV
open Go Go.Ev Go.Proofs Go.Proofs.YtcfopdccdeeleaaGreatDoor YM YS YF P1 P2 Y1 Y2 Y3 Y4 Y5 Y6 Y7 Y8 Y9 Y10 Y11 Y12 Y13 Y14 Y15 Y16 YU
theorem kA (x:Int):qt Tryz.prog 146 [aI x] (aB false):=by
 refine qSQ Tryz.call146 Tryz.func146 rfl {} ?_;simp [go_sem];exact .hf _ (HF.sc _)
def cmpI (x y:Int):Int:=if x<y then -1 else if y<x then 1 else 0
theorem qdS (x y:Int):qt Tryz.prog 91 [aI x,aI y] (aI (cmpI x y)):=by
 refine qSQ Tryz.call91 Tryz.func91 rfl {} ?_;simp [go_sem];refine qc.pure (kA x) (.cons (.hf (HF.sc _)) .nil) ?_;simp [go_sem];refine qc.pure (kA y) (.cons (.hf (HF.sc _)) .nil) ?_;simp [go_sem];unfold cmpI;by_cases h1:x<y
 ·simp [go_sem,h1]
  exact .hf _ (HF.sc _)
 ·by_cases h2:y<x
  ·simp [go_sem,h1,h2]
   exact .hf _ (HF.sc _)
  ·simp [go_sem,h1,h2]
   exact .hf _ (HF.sc _)
def cmpL:List Int→List Int→Int
 | [],[]=>0
 | [],_ :: _ => -1
 |_ :: _,[]=>1
 |x :: a,y :: b=>if cmpI x y=0 then cmpL a b else cmpI x y
theorem Yy:∀ a b:List Int,cmpL a b<0↔a<b
 | [],[]=>by simp [cmpL]
 | [],_ :: _=>by simp [cmpL]
 |_ :: _,[]=>by simp [cmpL]
 |x :: a,y :: b=>by
  rw [List.cons_lt_cons_iff,←Yy a b];simp only [cmpL,cmpI];by_cases h1:x<y
  ·simp [h1]
  ·by_cases h2:y<x
   ·have:x≠y:=by omega
    simp [h1,h2,this]
   ·have:x=y:=by omega
    simp [this]
theorem qdT (a:List Int):cmpL a a=0:=by
 induction a with
 |nil=>rfl
 |cons x a ih=>simp [cmpL,cmpI,ih]
theorem qdU (a b:List Int) (ha:a.length≤1000) (hb:b.length≤1000):qt Tryz.prog 45 [lI a,lI b] (aI (cmpL a b)):=by
 refine qSQ Tryz.call45 Tryz.func45 rfl {} ?_;simp [go_sem];generalize hC:cmpL a b=C;refine qD.upK a.length (fun k st=>st.tm 0=lI a∧st.tm 1=lI b∧st.tm 9=lI a∧st.tm 10=aI a.length∧st.tm 11=aI k∧k≤b.length∧cmpL (a.drop k) (b.drop k)=C) ?_ ?_
 ·exact ⟨by simp [go_sem],by simp [go_sem],by simp [go_sem],by simp [go_sem],by simp [go_sem],by omega,by simpa using hC⟩
 ·rintro k st hk ⟨e0,e1,e9,e10,e11,hkb,hI⟩
  by_cases hkl:k=a.length
  ·subst hkl
   rw [List.drop_length] at hI;by_cases hlt:a.length<b.length
   ·rw [zA hlt] at hI
    simp only [cmpL] at hI;subst hI;simp [go_sem,e0,e1,e9,e10,e11,hlt];exact .hf _ (HF.sc _)
   ·rw [List.drop_of_length_le (by omega)] at hI
    simp only [cmpL] at hI;subst hI;simp [go_sem,e0,e1,e9,e10,e11,hlt];exact .hf _ (HF.sc _)
  ·have hlt:k<a.length:=by omega
   have w1:IntKind.i64.wrap ((k:Int)+1)=(k:Int)+1:=qy (by omega) (by omega);rw [zA hlt] at hI;by_cases hb2:b.length≤k
   ·rw [List.drop_of_length_le hb2] at hI
    simp only [cmpL] at hI;subst hI;simp [go_sem,e0,e1,e9,e10,e11,hlt,hb2];exact .hf _ (HF.sc _)
   ·have hlb:k<b.length:=by omega
    rw [zA hlb] at hI;simp only [cmpL] at hI;simp [go_sem,e0,e1,e9,e10,e11,hlt,hb2,hlb];refine qc.pure (qdS a[k] b[k]) (.cons (.hf (HF.sc _)) (.cons (.hf (HF.sc _)) .nil)) ?_;by_cases hz:cmpI a[k] b[k]=0
    ·rw [if_pos hz] at hI
     simp [go_sem,e0,e1,e9,e10,e11,hz,w1];refine ⟨hlt,Keep.mk' ?_⟩;exact ⟨by simp [go_sem,e0],by simp [go_sem,e1],by simp [go_sem,e9],by simp [go_sem,e10],by simp [go_sem],by omega,hI⟩
    ·rw [if_neg hz] at hI
     subst hI;simp [go_sem,e0,e1,e9,e10,e11,hz,w1];exact .hf _ (HF.sc _)
def insL (x:List Int):List (List Int)→List (List Int)
 | []=>[x]
 |y :: l=>if y<x then y :: insL x l else x :: y :: l
def srt (l:List (List Int)):List (List Int):=l.foldr insL []
theorem Wr (x:List Int):∀ l,(insL x l).Perm (x :: l)
 | [] => .refl _
 |y :: l=>by
  simp only [insL];split
  ·exact ((Wr x l).cons y).trans (.swap x y l)
  ·exact .refl _
theorem Vf:∀ l,(srt l).Perm l
 | [] => .refl _
 |x :: l=>(Wr x (srt l)).trans ((Vf l).cons x)
theorem kB (x:List Int):∀ l:List (List Int),l.Pairwise (·≤·)→(insL x l).Pairwise (·≤·)
 | [],_=>by simp [insL]
 |y :: l,h=>by
  rw [ZW] at h;simp only [insL];split
  ·rename_i hlt
   rw [ZW];refine ⟨fun z hz=>?_,kB x l h.2⟩;rcases qK.1 ((Wr x l).mem_iff.1 hz) with rfl | hz
   ·exact List.le_of_lt hlt
   ·exact h.1 z hz
  ·rename_i hlt
   have hle:x≤y:=List.not_lt.1 hlt;rw [ZW,ZW];refine ⟨fun z hz=>?_,h⟩;rcases qK.1 hz with rfl | hz
   ·exact hle
   ·exact List.le_trans hle (h.1 z hz)
theorem kC:∀ l,(srt l).Pairwise (·≤·)
 | [] => .nil
 |x :: l=>kB x (srt l) (kC l)
theorem kD {l l':List (List Int)} (hp:l'.Perm l) (hs:l'.Pairwise fun x y=>¬cmpL y x<0):l'=srt l:=by
 refine List.Perm.eq_of_pairwise (le:=(·≤·)) (fun a b _ _ h1 h2=>List.le_antisymm h1 h2) (hs.imp fun h=>?_) (kC l) (hp.trans (Vf l).symm);rw [Yy] at h;exact List.not_lt.1 h
end Go.Proofs.YtcfopdccdeeleaaGreatDoor.YV


namespace Go.Proofs.YtcfopdccdeeleaaGreatDoor.YW
open Go Go.Ev Go.Proofs Go.Proofs.YtcfopdccdeeleaaGreatDoor YM YS YF P1 P2 Y1 Y2 Y3 Y4 Y5 Y6 Y7 Y8 Y9 Y10 Y11 Y12 Y13 Y14 Y15 Y16 YU YV
theorem okKd.le64 {ns:Nat} {k:Kd} (h:okKd ns k) (hns:ns≤4):k.ts.length≤64:=by
 have hsub:∀ t,t∈k.ts→t∈([0,1,2,3]:List Int).flatMap fun a=>([0,1,2,3]:List Int).flatMap fun b=>([0,1,2,3]:List Int).map fun c=>[a,b,c]:=fun t ht=>by
  obtain ⟨l,rfl,hl,hr⟩:=h.ts t ht;have hl3:=h.ar.2;have four':∀ x:Int,0≤x→x<ns→x∈([0,1,2,3]:List Int):=fun x h1 h2=>by simp;omega
  match l,hl,hr with
  | [],hl,hr=>simp [pad]
  | [a],hl,hr =>
   have:=four' a (hr a (by simp)).1 (hr a (by simp)).2;simp only [Jm,qE];exact ⟨a,this,0,by simp,0,by simp,by simp [pad]⟩
  | [a,b],hl,hr =>
   have h1:=four' a (hr a (by simp)).1 (hr a (by simp)).2;have h2:=four' b (hr b (by simp)).1 (hr b (by simp)).2;simp only [Jm,qE];exact ⟨a,h1,b,h2,0,by simp,by simp [pad]⟩
  | [a,b,c],hl,hr =>
   have h1:=four' a (hr a (by simp)).1 (hr a (by simp)).2;have h2:=four' b (hr b (by simp)).1 (hr b (by simp)).2;have h3:=four' c (hr c (by simp)).1 (hr c (by simp)).2;simp only [Jm,qE];exact ⟨a,h1,b,h2,c,h3,by simp [pad]⟩
  |_ :: _ :: _ :: _ :: _,hl,hr=>simp at hl;omega
 have:=List.Nodup.length_le_of_subset h.nd hsub;simpa using this
theorem okKd.sm {ns:Nat} {k:Kd} (h:okKd ns k) (hns:ns≤4) {t:Tp} (ht:t∈k.ts):∀ x,x∈t→0≤x∧x<128:=fun x hx=>by
 obtain ⟨l,rfl,hl,hr⟩:=h.ts t ht;have hl3:=h.ar.2
 match l,hl,hr with
 | [],hl,hr=>simp [pad] at hx;omega
 | [a],hl,hr =>
  have:=hr a (by simp);simp [pad] at hx;omega
 | [a,b],hl,hr =>
  have:=hr a (by simp);have:=hr b (by simp);simp [pad] at hx;omega
 | [a,b,c],hl,hr =>
  have:=hr a (by simp);have:=hr b (by simp);have:=hr c (by simp);simp [pad] at hx;omega
 |_ :: _ :: _ :: _ :: _,hl,hr=>simp at hl;omega
theorem kE {n:Nd} (hw:WfN n) (h:¬ 20≤n.op):kd n.op=101:=by
 have hs:=hw.shape;refine qc5 ?_;unfold shp at hs
 repeat' split at hs
 all_goals first | omega | exact absurd hs (by simp)
theorem Zr (c:Ck) (s:Scp) (inn:Bool) {ks:List Nd} (hk:∀ k,k∈ks→∀ e,exam c s inn k = .error e→e.1≠0) {e:Dg} (h:zB c s inn ks = .error e):e.1≠0:=by
 induction ks with
 |nil=>simp [zB] at h
 |cons k ks ih =>
  simp only [zB] at h;split at h
  ·rename_i e' hx
   cases h;exact hk k (zG ..) _ hx
  ·split at h
   ·rename_i e' hx
    cases h;exact ih (fun k hm=>hk k (zt _ hm)) hx
   ·cases h
theorem Vg (c:Ck) (s:Scp) (pos:Int) {ks:List Nd} (hk:∀ k,k∈ks→∀ e,exam c s true k = .error e→e.1≠0):∀{ps:List (ByteArray×Int)} {e:Dg},yc c s pos ps ks = .error e→e.1≠0:=by
 induction ks with
 |nil=>intro ps e h;cases ps<;>simp [yc] at h
 |cons k ks ih =>
  intro ps e h;cases ps with
  |nil=>simp [yc] at h
  |cons p ps =>
   simp only [yc] at h;split at h
   ·rename_i e' hx
    cases h;exact hk k (zG ..) _ hx
   ·cases h;simp
   ·split at h
    ·split at h
     ·exact ih (fun k hm=>hk k (zt _ hm)) h
     ·cases h;simp
    ·cases h;simp
theorem uz (c:Ck):∀(m:Nat) (n:Nd) (s:Scp) (inn:Bool) (e:Dg),szN n≤m→exam c s inn n = .error e→e.1≠0
 | 0,n,_,_,_,hm,_=>by obtain ⟨op,nm,i,ks,p⟩:=n;simp [szN] at hm
 |m+1,n,s,inn,e,hm,h=>by
  have ih:∀ k,k∈n.kids→∀ s inn e,exam c s inn k = .error e→e.1≠0:=fun k hk s inn e hx=>uz c m k s inn e (by have:=yu hk;omega) hx
  rw [vA] at h;split at h
  ·cases h;simp
  split at h
  ·unfold jj at h
   split at h
   ·cases h
   ·split at h<;>first | (cases h;simp) | cases h
  split at h
  ·split at h
   ·split at h
    ·cases h;simp
    ·split at h
     ·cases h;simp
     ·split at h
      ·exact Vg c s n.pos (fun k hk e hx=>ih k hk s true e hx) h
      ·cases h;simp
   ·cases h;simp
  split at h
  ·revert h ih
   match n.kids with
   | []=>intro ih h;simp [yU] at h
   |k :: ks =>
    intro ih h;simp only [yU] at h;split at h
    ·rename_i e' hx
     cases h;exact ih k (zG ..) _ _ _ hx
    ·cases h;simp
    ·split at h
     ·split at h
      ·rename_i e' hx
       cases h;exact Zr c _ _ (fun k hk e hx=>ih k (zt _ hk) _ _ e hx) hx
      ·cases h
     ·cases h;simp
  ·split at h
   ·rename_i e' hx
    cases h;exact Zr c _ _ (fun k hk e hx=>ih k hk _ _ e hx) hx
   ·unfold yB at h
    repeat' split at h
    all_goals first | (cases h;done) | (cases h;simp)
theorem qdV (ts:TS) (h:okTS ts) (hp:∀ p,p∈ts.preds→WfN p.body) (n:Nd) (hw:WfN n) (env:List (ByteArray×Int)) (he:vB ts.sorts.length env) {mu:Mu} {b:Nat} (hb:mu[b]?=some (.arr (cKo none))) :
  qW Tryz.prog 40 [.ip (cTS ts),.ip [lPm env],.ip (cNd n),.ptr b 0] mu fun e m=>match exam (mkCk ts ts.preds.length) (zQ env) false n with
   | .ok ko=>e = .ret (.tup [])∧m=mu.set b (.arr (cKo ko))
   | .error d=>e = .pan (jq d.1 d.2)∧m=mu:=by
 refine qSW Tryz.call40 Tryz.func40 rfl {} ?_;have hck:=vO h (qB ts.preds.length);have hx:=Wn (mkCk ts ts.preds.length) hck (szN n) n (qB _) hw (zQ env) (Zq he) false;generalize hE:exam (mkCk ts ts.preds.length) (zQ env) false n=E at hx;have hbl:b<mu.length:=(qv.1 hb).1;simp [go_sem];refine qx.tail 8 (by kernel_rfl) ?_;simp [go_sem];refine qc.pure (We ts h (fun p hq=>(hp p hq).small) _ (qB _)) (.cons (.hf (zq ts)) (.cons (.hf (HF.sc _)) .nil)) ?_;simp [go_sem];refine qc.pure (kg _ h.ns env he.len he.r) (.cons (.hf (jJ env)) .nil) ?_;simp [go_sem];have hwe:WKs [eCk (mkCk ts ts.preds.length),aSc (zQ env),eNd n,aB false] [eCk (mkCk ts ts.preds.length),aSc (zQ env),eNd n,aB false] := .cons (.hf (yV _)) (.cons (.hf (uw _)) (.cons (.hf (qO n)) (.cons (.hf (HF.sc _)) .nil)));cases E with
 |error d =>
  refine qc.pans hx hwe ?_;simp [go_sem]
 |ok ko =>
  refine qc.pure hx.toP hwe ?_;have hb':mu[b]?=some (.arr [aI 0,.sc (.map none)]):=hb;cases ko<;>simp [go_sem,hb',cKo]
def rowT (k:Kd) (t:Tp):List Int:=t.take k.ar.toNat
def Zs (k:Kd):List (List Int):=srt (k.ts.map (rowT k))
def yo (ts:TS) (env:List (ByteArray×Int)) (n:Nd):List (List Int)×Int:=
 if 20≤n.op then ([],43) else
 match exam (mkCk ts ts.preds.length) (zQ env) false n with
 | .error d=>([],d.1)
 | .ok (some k)=>(Zs k,0)
 | .ok none=>([],0)
theorem Vh (mu:Mu) (e:Int):Rd mu (.tup [.lst true [],aI e]) (.tup [lL [],aI e]) := .tup _ _ rfl fun k x y hx hy=>by
 match k,hx,hy with
 | 0,hx,hy=>simp at hx hy;subst hx;subst hy;exact .wk _ true _ (.hf _ (HF.lst fun r hr=>absurd hr zb))
 | 1,hx,hy=>simp at hx hy;subst hx;subst hy;exact .hf _ (HF.sc _)
 |k+2,hx,hy=>simp at hx
theorem qdW {P:Program} {x':AV} (give:Nat→Bool) {lo:Nat} {mu:Mu} {t t' e sz bt:Nat} {s x:AV} {xs ys:List (List AV)} {zv:AV} {K:AV→Mu→Prop} (hs:zn P t=some (e,sz,bt)) (hs':(zn P t').isSome=true) (hz:zc P e=some zv)
  (hz1:zv.cells.length=sz) (hz2:zv.cells.all AV.one=true) (hz0:sz≠0) (hb:bt≤16384) (hrd:Rd (cutM give mu 0) x x') (ho:OwnF lo (cutM (fun i=>!give i) mu 0) sz s xs) (hx:zf (cutM (fun i=>!give i) mu 0) x'=some ys) (wx:zC sz xs) (wy:zC sz ys) (hl:xs.length+ys.length≤4294967296) (hne:ys≠[])
  (k:∀ b mu',OwnF lo mu' sz (.sl b sz 0 (xs++ys).length) (xs++ys)→(∀ i,i<lo→mu'[i]?=(cutM (fun i=>!give i) mu 0)[i]?)→K (.sl b sz 0 (xs++ys).length) mu'):zo P mu #[t,t'] s x K:=by
 refine .inr ⟨give,x',hrd,?_⟩;generalize cutM (fun i=>!give i) mu 0=mu at *
 obtain ⟨ho,hlo,hlm⟩:=ho;refine ⟨t,t',e,sz,bt,ys,rfl,hs,hs',⟨zv,hz,hz1,hz2⟩,hz0,hb,hx,wy,?_⟩;rcases ho with rfl | ⟨b,rfl,hc⟩
 ·refine .inl ⟨xs,rfl,wx,hl,fun h=>absurd h hne,fun h=>?_⟩
  rw [←zr];refine k _ _ ⟨.inr ⟨mu.length,rfl,by simp⟩,fun b s o l e=>?_,by simp;omega⟩ (fun i hi=>?_)
  ·injection e;omega
  ·rw [qz (by omega)]
 ·have hfl:=jp wx.ok
  have hbl:=hlo _ _ _ _ rfl;refine .inr ⟨b,xs.length,xs.flatten,rfl,hc,by omega,hl,?_⟩;have htk:xs.flatten.take (xs.length*sz)=xs.flatten:=y5 (by omega);rw [←zr];refine k _ _ ⟨.inr ⟨mu.length,rfl,?_⟩,fun b s o l e=>?_,by simp;omega⟩ (fun i hi=>?_)
  ·rw [htk,zl (by simp)];simp
  ·injection e;omega
  ·rw [qz (by simp;omega)]
   rw [qL (by omega)]
theorem qdX {mu:Mu} {x y:AV} (h:Rd mu x y):Rd mu (.lst true [[x]]) (.lst true [[y]]):=by
 refine .lst true _ _ rfl (fun k a b ha hb=>?_) (fun k a b ha hb=>?_)
 ·cases k with
  |zero=>simp at ha hb;subst ha;subst hb;rfl
  |succ k=>simp at ha
 ·cases k with
  |zero=>simp at ha hb;subst ha;subst hb;exact h
  |succ k=>simp at ha
theorem kF (f:Nat→List Int) (l:List Nat):zC 1 (l.map fun i=>rL (f i)):=fun r hr=>by
 obtain ⟨i,_,rfl⟩:=qE.1 hr;exact ⟨rfl,rfl⟩
theorem kG {mu:Mu} {av x:AV} (h:Rd mu av x) (e:Int):Rd mu (.tup [av,aI e]) (.tup [x,aI e]) := .tup _ _ rfl fun k x y hx hy=>by
 match k,hx,hy with
 | 0,hx,hy=>simp at hx hy;subst hx;subst hy;exact h
 | 1,hx,hy=>simp at hx hy;subst hx;subst hy;exact .hf _ (HF.sc _)
 |k+2,hx,hy=>simp at hx
theorem qdY {α β:Type} {l:List α} {d:α} (f:α→β) {seen:List Nat} (hnd:seen.Nodup) (hlt:∀ i,i∈seen→i<l.length) (hall:∀ i,i<l.length→i∈seen):(seen.map fun i=>f (l.getD i d)).Perm (l.map f):=by
 have h1:seen.Perm (List.range l.length):=by
  rw [List.perm_ext_iff_of_nodup hnd List.nodup_range];exact fun i=>⟨fun h=>List.mem_range.2 (hlt i h),fun h=>hall i (List.mem_range.1 h)⟩
 have h2:=h1.map fun i=>f (l.getD i d)
 have h3:((List.range l.length).map fun i=>f (l.getD i d))=l.map f:=by
  apply List.ext_getElem?;intro i;by_cases hi:i<l.length
  ·simp [hi]
  ·simp [hi]
 rwa [h3] at h2
theorem qdZ {mu:Mu} {av fa:AV} (h:∀ G (hp:Array Obj) v,VRel G hp av v→∃ p cap,v = .slice p 0 cap):qW Tryz.prog 44 [av,fa] mu fun e mu'=>e = .ret (.tup [])∧mu'=mu:=by
 refine ⟨Tryz.call44,fun G w vs s ra=>?_⟩;obtain ⟨u,fv,rfl,ru,rf⟩:=ra.two_inv;obtain ⟨p,cap,rfl⟩:=h _ _ _ ru;refine (AnyF.slices_SortFunc_none (P:=Tryz.prog) (ρ:=Tryz.laysSF1_ren) { Tryz.laysSF1 with } p cap fv w).mono ?_;rintro e w' ⟨rfl,rfl⟩;exact ⟨G,mu,Stp.ahead s 0,.inl ⟨_,_,⟨rfl,rfl⟩,rfl,.tup [] #[] rfl (by simp)⟩⟩
theorem qd0 {mu:Mu} {av:AV} {L:List (List Int)} (ho:Own mu 1 av (L.map rL)) (hn:∀ zs,av = .lst true zs→zs=[]) (hl:L.length≤64) (hx:∀ x,x∈L→x.length≤3) :
  qW Tryz.prog 44 [av,.fn (.func 45) [] []] mu fun e mu'=>e = .ret (.tup [])∧∃ L':List (List Int),L'.Perm L∧L'.Pairwise (fun x y=>¬cmpL y x<0)∧Rd mu' av (lL L'):=by
 have rdL:∀{mu:Mu} {b:Nat} {l:List (List Int)},mu[b]?=some (.arr (l.map lI))→Rd mu (.sl b 1 0 l.length) (lL l):=fun {mu b l} h=>by
  have ho:Own mu 1 (.sl b 1 0 l.length) (l.map rL) := .inr ⟨b,by simp,by
   rw [h];congr 2;clear h;induction l with
   |nil=>rfl
   |cons a l ih=>simp [ih]⟩
  exact ho.rd (qbV _).ok fun r hr c hc=>by
   obtain ⟨q,_,rfl⟩:=qE.1 hr;rw [zj] at hc;subst hc;exact j9 q
 by_cases hL0:L=[]
 ·subst hL0
  refine qW.monoR (qdZ (mu:=mu) (av:=av) ?_) ?_
  ·intro G hp v r
   rcases ho with rfl | ⟨b,rfl,hc⟩
   ·cases r with
    |nil=>exact ⟨_,_,rfl⟩
    |emp _ a cap hc=>exact ⟨_,_,rfl⟩
    |lst _ _ sz a cap cs e fr rd hb hs hl hc hi hz hr hv=>exact ⟨_,_,rfl⟩
   ·cases r with
    |sl _ _ _ _ blk tot cap hb ht hlc=>exact ⟨_,_,rfl⟩
  ·rintro e m ⟨rfl,rfl⟩
   refine ⟨rfl,[],.refl _,.nil,?_⟩;rcases ho with rfl | ⟨b,rfl,hc⟩
   ·exact .wk _ true _ (.hf _ (HF.lst fun r hr=>absurd hr zb))
   ·exact rdL (l:=[]) hc
 rcases ho with ho | ⟨b,rfl,hc⟩
 ·have hz:=hn _ ho
  exact absurd (by simpa using hz) hL0
 ·have hfl:(L.map rL).flatten=L.map lI:=by
   clear hc hn hl hx hL0;induction L with
   |nil=>rfl
   |cons a l ih=>simp [ih]
  rw [hfl] at hc;rw [jn];obtain ⟨m,hm⟩:∃ m,L.length=m+1:=⟨L.length-1,by
   have:L.length≠0:=fun h=>hL0 (List.eq_nil_of_length_eq_zero h)
   omega⟩
  refine qW.monoR (qdR (g:=45) Tryz.call44 lI (fun _=>rfl) cmpL j9 m L hm (by omega) (fun x y h1 h2=>qdU x y (by have:=hx x h1;omega) (by have:=hx y h2;omega)) (fun x _=>by rw [qdT];omega) (fun x y z _ _ _ h1 h2=>?_) (fun x y z _ _ _ h1 h2=>?_) ?_ hc) ?_
  ·rw [Yy] at *;exact List.lt_trans h1 h2
  ·rw [Yy] at *;exact List.not_lt.2 (List.le_trans (List.not_lt.1 h2) (List.not_lt.1 h1))
  ·intro enc h1 cf hO cb blk off cap d w h3 h4 h5 h6
   exact Any.slices_SortFunc Tryz.laysSF1 enc h1 cf hO 45 cb blk off cap d w Tryz.call45 h3 h4 h5 h6
  ·rintro e m' ⟨rfl,L',hp,hs,rfl⟩
   refine ⟨rfl,L',hp,hs,?_⟩;rw [←hp.length_eq];exact rdL (zd (qv.1 hc).1)
theorem Vi (ts:TS) (h:okTS ts) (hp:∀ p,p∈ts.preds→WfN p.body) (n:Nd) (hw:WfN n) (env:List (ByteArray×Int)) (he:vB ts.sorts.length env):qt Tryz.prog 16 [eTS ts,lPm env,eNd n] (.tup [lL (yo ts env n).1,aI (yo ts env n).2]):=by
 refine qSQ Tryz.call16 Tryz.func16 rfl {} ?_;by_cases h20:20≤n.op
 ·simp [go_sem,h20,yo]
  exact Vh [] 43
 ·simp [go_sem,h20]
  have hcap:WKs [.ip (cTS ts),.ip [lPm env],.ip (cNd n)] [.ip (cTS ts),.ip [lPm env],.ip (cNd n)] := .cons (.hf (HF.ip (U5 ts))) (.cons (.hf (HF.ip (by simp;exact jJ env))) (.cons (.hf (HF.ip (jb n))) .nil));have h1:=qdV ts h hp n hw env he (mu:=[.arr (cKo none)]++[.dead]) (b:=0) rfl;have hok:=vR (vO h (qB ts.preds.length)) (szN n) n (zQ env) false;refine qc.eff0 (UO (mu:=[.arr (cKo none)]) h1 ?_) ?_ ?_
  ·intro v m hv
   split at hv
   ·exact absurd hv.1 (by simp)
   ·cases hv.1;exact ⟨_,_,rfl⟩
  ·rintro r m ⟨m',x,⟨l,rfl⟩,⟨r',hv,hr⟩ | ⟨er,p,hv,hr⟩⟩
   ·cases hr
    split at hv
    ·rename_i ko hE
     obtain ⟨_,rfl⟩:=hv;have hkd:kd n.op=101:=kE hw h20;obtain ⟨k,rfl,hk⟩:=hok ko (qB _) hw (Zq he) hE hkd;have htk:yo ts env n=(Zs k,0):=by
      unfold yo;rw [if_neg h20,hE]
     rw [htk];simp [go_sem];refine qD.seen k.ts.length (fun seen st=>st.tm 8 = .ptr 0 0∧st.tm 27 = .ptr (l.length+3) 0∧st.mu[0]?=some (.arr (cKd k))∧st.mu[l.length+3]?=some (.it (eT k.ts) seen) ∧
      OwnF (l.length+4) st.mu 1 (st.tm 10) (seen.map fun i=>rL (rowT k (k.ts.getD i [])))∧∀ zs,st.tm 10 = .lst true zs→zs=[]) ?_ ?_
     ·refine ⟨by simp [go_sem],by simp [go_sem],by simp [go_sem],by simp [go_sem],?_,fun zs e=>?_⟩
      ·simp [go_sem]
       exact OwnF.nil (by simp)
      ·simp [go_sem] at e
       exact e
     ·rintro seen st hnd hlt ⟨e8,e27,m0,mi,ho,hnl⟩
      have hil:l.length+3<st.mu.length:=(qv.1 mi).1;have hsl:seen.length≤k.ts.length:=UW _ _ hnd hlt;have hkl:=okKd.le64 hk h.ns;simp [go_sem,e8,e27];refine ⟨l.length+3,eT k.ts,seen,rfl,mi,fun i e hi hns=>?_,fun hdone=>?_⟩
      ·obtain ⟨t,ht,rfl⟩:=wq hi
       have hto:=hk.okK.len t (ze ht);have hit:i<k.ts.length:=(qv.1 ht).1;have m0':∀(c:Cell) (lc:List Cell),((st.mu.set (l.length+3) c)++lc)[0]?=some (.arr (cKd k)):=fun c lc=>by
        rw [qz (by simp;omega),qL (by omega)];exact m0
       obtain ⟨x0,x1,x2,rfl⟩:∃ x0 x1 x2,t=[x0,x1,x2]:=by
        match t,hto with
        | [x0,x1,x2],_=>exact ⟨_,_,_,rfl⟩
       have hq:∀(c c2:Cell),((st.mu.set (l.length+3) c)++[c2])[st.mu.length]?=some c2:=fun c c2=>by
        rw [zl (by simp)];simp
       simp [go_sem,-getElem?_pos,hq,Qo,List.getElem?_cons_succ,e8,e27,hi,hil,hns,mi,m0'];have har:=hk.ar;obtain ⟨a,ha⟩:∃ a:Nat,k.ar=a:=⟨k.ar.toNat,by omega⟩;have ha3:a≤3:=by omega
       rw [ha,if_pos (by omega)];simp [go_sem];generalize hM:st.mu.set (l.length+3) (Cell.it (eT k.ts) (seen++[i]))++[Cell.arr [AV.sc (Value.int IntKind.i8 x0),AV.sc (Value.int IntKind.i8 x1),AV.sc (Value.int IntKind.i8 x2)]]=M at *
       have hMl:M.length=st.mu.length+1:=by rw [←hM];simp
       have hMq:M[st.mu.length]?=some (.arr [AV.sc (Value.int IntKind.i8 x0),AV.sc (Value.int IntKind.i8 x1),AV.sc (Value.int IntKind.i8 x2)]):=by rw [←hM];exact hq _ _
       refine qD.upK a (fun j s=>s.tm 8 = .ptr 0 0∧s.tm 27 = .ptr (l.length+3) 0∧s.tm 10=st.tm 10∧s.tm 34 = .sl st.mu.length 0 0 a∧s.tm 35=aI a∧s.tm 36=aI j∧(∀ i,i<M.length→s.mu[i]?=M[i]?)∧OwnF M.length s.mu 1 (s.tm 12) (([x0,x1,x2].take j).map rI)) ?_ ?_
       ·refine ⟨by simp [go_sem,e8],by simp [go_sem,e27],by simp [go_sem],by simp [go_sem],by simp [go_sem],by simp [go_sem],by simp [go_sem],?_⟩
        simp [go_sem];exact OwnF.nil (qB _)
       ·rintro j s hj ⟨f8,f27,f10,f34,f35,f36,fm,fo⟩
        have fq:s.mu[st.mu.length]?=some (.arr [AV.sc (Value.int IntKind.i8 x0),AV.sc (Value.int IntKind.i8 x1),AV.sc (Value.int IntKind.i8 x2)]):=by rw [fm _ (by omega)];exact hMq
        by_cases hja:j=a
        ·subst hja
         have g1:=fo.cells;have g2:=fo.one;simp [go_sem,f8,f27,f10,f34,f35,f36,g1,g2];have hrow:(([x0,x1,x2]:List Int).take j)=rowT k (k.ts.getD i []):=by
          rw [List.getD_eq_getElem?_getD,ht];simp [rowT,ha]
         rw [hrow] at fo;have hgive:∀ i,i<M.length→(cutM (fun i=>!decide (M.length≤i)) s.mu 0)[i]?=M[i]?:=fun i hi=>by
          rw [vg,←fm i hi];simp only [Nat.zero_add,show ¬M.length≤i by omega,decide_false,Bool.not_false,if_true];cases s.mu[i]?<;>rfl
         have hoM:OwnF (l.length+4) (cutM (fun i=>!decide (M.length≤i)) s.mu 0) 1 (st.tm 10) (seen.map fun i=>rL (rowT k (k.ts.getD i []))):=by
          obtain ⟨o1,o2,o3⟩:=ho;refine ⟨?_,o2,by rw [jQ];have:=fo.2.2;omega⟩;rcases o1 with o1 | ⟨b,o1,hc⟩
          ·exact .inl o1
          ·have hb1:=o2 _ _ _ _ o1
           have hb2:=(qv.1 hc).1;refine .inr ⟨b,o1,?_⟩;rw [hgive b (by omega),←hM,qz (by simpa using hb2),qL (by omega)];exact hc
         have hrd:Rd (cutM (fun i=>decide (M.length≤i)) s.mu 0) (s.tm 12) (lI (rowT k (k.ts.getD i []))):=Vc fo (Yi _).ok fun r hr c hc=>by
          obtain ⟨q,_,rfl⟩:=qE.1 hr;rw [zj] at hc;subst hc;exact HF.sc _
         refine qdW (x' := .lst true [[lI (rowT k (k.ts.getD i []))]]) (fun i=>decide (M.length≤i)) (lo:=l.length+4) (e:=52) (sz:=1) (bt:=24) (zv := .lst true []) (xs:=seen.map fun i=>rL (rowT k (k.ts.getD i []))) (ys:=[rL (rowT k (k.ts.getD i []))]) (by simp [go_sem]) (by simp [go_sem]) (by simp [go_sem]) rfl rfl (by omega) (by omega) (qdX hrd) hoM (by simp [zf]) (kF _ _) (kF (fun i=>rowT k (k.ts.getD i [])) [i]) (by simp;omega) (by simp) ?_;intro av mu' ho' hm';simp [go_sem,f8,f27,f10,f34,f35,f36];refine ⟨i,hit,hns,Keep.mk' ?_⟩;refine ⟨by simp [go_sem,f8],by simp [go_sem,f27],?_,?_,?_,fun zs e=>by simp [go_sem] at e⟩
         ·simp only [qT]
          rw [hm' 0 (by omega),hgive 0 (by omega),←hM];exact m0' _ _
         ·simp only [qT]
          rw [hm' _ (by omega),hgive _ (by omega),←hM,qz (by simpa using hil),zd hil]
         ·rw [List.map_append]
          simpa [go_sem] using ho'
        ·have hlt:j<a:=by omega
         have w1:IntKind.i64.wrap ((j:Int)+1)=(j:Int)+1:=qy (by omega) (by omega);have hj3:j=0∨j=1∨j=2:=by omega
         have z1:IntKind.i64.wrap 1=1:=rfl;have z2:IntKind.i64.wrap 2=2:=rfl;have z3:IntKind.i64.wrap 3=3:=rfl;have hx8:∀ x,x∈[x0,x1,x2]→0≤x∧x<128:=okKd.sm hk h.ns (ze ht);have v0:=hx8 x0 (by simp);have v1:=hx8 x1 (by simp);have v2:=hx8 x2 (by simp);have u0:IntKind.i64.wrap x0=x0:=qy (by omega) (by omega);have u1:IntKind.i64.wrap x1=x1:=qy (by omega) (by omega);have u2:IntKind.i64.wrap x2=x2:=qy (by omega) (by omega);rcases hj3 with rfl | rfl | rfl
         ·have c:(0:Int)<a:=by omega
          simp [go_sem,f8,f27,f10,f34,f35,f36,hlt,fq,w1,u0,u1,u2,c];refine zo.ints (lo:=M.length) (e:=3) (bt:=8) (z:=0) (xs:=[]) (ys:=[x0]) (by simp [go_sem]) (by simp [go_sem]) (by simp [go_sem]) (by omega) (by simpa using fo) (by simp [zf]) (by simp) ?_;intro av mu' ho' hm';simp [go_sem,f8,f27,f10,f34,f35,f36,z1,z2,z3];refine ⟨hlt,Keep.mk' ?_⟩;exact ⟨by simp [go_sem,f8],by simp [go_sem,f27],by simp [go_sem,f10],by simp [go_sem,f34],by simp [go_sem,f35],by simp [go_sem],fun i hi=>by simp only [qT];rw [hm' i hi];exact fm i hi,by simpa [go_sem] using ho'⟩
         ·have c:(1:Int)<a:=by omega
          simp [go_sem,f8,f27,f10,f34,f35,f36,hlt,fq,w1,u0,u1,u2,c];refine zo.ints (lo:=M.length) (e:=3) (bt:=8) (z:=0) (xs:=[x0]) (ys:=[x1]) (by simp [go_sem]) (by simp [go_sem]) (by simp [go_sem]) (by omega) (by simpa using fo) (by simp [zf]) (by simp) ?_;intro av mu' ho' hm';simp [go_sem,f8,f27,f10,f34,f35,f36,z1,z2,z3];refine ⟨hlt,Keep.mk' ?_⟩;exact ⟨by simp [go_sem,f8],by simp [go_sem,f27],by simp [go_sem,f10],by simp [go_sem,f34],by simp [go_sem,f35],by simp [go_sem],fun i hi=>by simp only [qT];rw [hm' i hi];exact fm i hi,by simpa [go_sem] using ho'⟩
         ·have c:(2:Int)<a:=by omega
          simp [go_sem,f8,f27,f10,f34,f35,f36,hlt,fq,w1,u0,u1,u2,c];refine zo.ints (lo:=M.length) (e:=3) (bt:=8) (z:=0) (xs:=[x0,x1]) (ys:=[x2]) (by simp [go_sem]) (by simp [go_sem]) (by simp [go_sem]) (by omega) (by simpa using fo) (by simp [zf]) (by simp) ?_;intro av mu' ho' hm';simp [go_sem,f8,f27,f10,f34,f35,f36,z1,z2,z3];refine ⟨hlt,Keep.mk' ?_⟩;exact ⟨by simp [go_sem,f8],by simp [go_sem,f27],by simp [go_sem,f10],by simp [go_sem,f34],by simp [go_sem,f35],by simp [go_sem],fun i hi=>by simp only [qT];rw [hm' i hi];exact fm i hi,by simpa [go_sem] using ho'⟩
      ·simp [go_sem,e8,e27]
       have hperm:(seen.map fun i=>rowT k (k.ts.getD i [])).Perm (k.ts.map (rowT k)):=qdY (rowT k) hnd hlt fun i hi=>hdone i (by simpa using hi)
       have hlen:∀ x,x∈(seen.map fun i=>rowT k (k.ts.getD i []))→x.length≤3:=fun x hx=>by
        obtain ⟨i,_,rfl⟩:=qE.1 hx;have:=hk.ar;simp only [rowT,List.length_take];omega
       generalize hL:(seen.map fun i=>rowT k (k.ts.getD i []))=L at *
       have hoL:OwnF (l.length+4) st.mu 1 (st.tm 10) (L.map rL):=by
        rw [←hL,List.map_map];exact ho
       have hLl:L.length≤64:=by rw [←hL,jn];omega
       refine qc.eff0 (qd0 hoL.1 hnl hLl hlen) ?_ ?_
       ·rintro r m ⟨e,L',hp',hs',hr'⟩
        cases e;have htl:L'=Zs k:=kD (hp'.trans hperm) hs';rw [htl] at hr';simp [go_sem];exact kG hr' 0
       ·rintro r m ⟨e,_⟩;cases e
    ·exact absurd hv.1 (by simp)
   ·cases hr
    split at hv
    ·exact absurd hv.1 (by simp)
    ·rename_i d hE
     obtain ⟨hv,rfl⟩:=hv;cases hv;have hne:d.1≠0:=uz _ (szN n) n _ _ _ (qB _) hE;have htk:yo ts env n=([],d.1):=by
      unfold yo;rw [if_neg h20,hE]
     rw [htk];simp [go_sem,hne];refine qx.intro (by kernel_rfl) ?_;simp [go_sem];exact Vh _ _
  ·rintro r m ⟨m',x,⟨l,rfl⟩,⟨r',hv,hr⟩ | ⟨er,p,hv,hr⟩⟩<;>cases hr
end Go.Proofs.YtcfopdccdeeleaaGreatDoor.YW


namespace Go.Proofs.YtcfopdccdeeleaaGreatDoor.YX
open Go Go.Ev Go.Proofs Go.Proofs.YtcfopdccdeeleaaGreatDoor YM YS YF P1 P2 Y1 Y2 Y3 Y4 Y5 Y6 Y7 Y8 Y9 Y10 Y11 Y12 Y13 Y14 Y15 Y16 YU YV YW
structure IV where
 arg:Option Nd
 size:Int
 name:ByteArray
abbrev IEnv:=List (ByteArray×IV)
def aArg:Option Nd→AV
 |some n => .ip (cNd n)
 |none => .sc (.pointer none)
abbrev cIV (v:IV):List AV:=[aArg v.arg,aI v.size,aS v.name]
abbrev eIV (v:IV):AV := .agg (cIV v)
abbrev eEnv (env:IEnv):AV := .ims (encK aS eIV env)
structure ISt where
 last:Int
 cost:Int
abbrev cIn (ts:TS) (tb:Nat) (s:ISt):List AV:=cTS ts++[.mp tb,aI s.last,aI s.cost]
theorem qd1 (a:Option Nd):HF (aArg a):=by
 cases a with
 |none=>exact HF.sc _
 |some n=>exact HF.ip (jb n)
theorem qd2 (v:IV):HF (eIV v):=HF.agg fun c hc=>by
 simp only [cIV,qK,zb,or_false] at hc;rcases hc with rfl | rfl | rfl
 ·exact qd1 _
 ·exact HF.sc _
 ·exact HF.sc _
theorem UQ (op:Int):qt Tryz.prog 116 [aI op] (aB (decide (op=15∨op=45∨op=46))):=by
 refine qSQ Tryz.call116 Tryz.func116 rfl {} ?_;by_cases h1:op=15
 ·simp [go_sem,h1];exact .hf _ (HF.sc _)
 by_cases h2:op=45
 ·simp [go_sem,h1,h2];exact .hf _ (HF.sc _)
 by_cases h3:op=46
 ·simp [go_sem,h1,h2,h3];exact .hf _ (HF.sc _)
 simp [go_sem,h1,h2,h3];exact .hf _ (HF.sc _)
def nd0:Nd := .mk 0 ⟨#[]⟩ 0 [] 0
abbrev eN0:AV := .agg [aI 0,aS ⟨#[]⟩,aI 0,.lst true [],aI 0]
theorem kH:WK eN0 (eNd nd0):=WK.aggs (.cons (.hf (HF.sc _)) (.cons (.hf (HF.sc _)) (.cons (.hf (HF.sc _)) (.cons (WK.lst fun r hr=>absurd hr zb) (.cons (.hf (HF.sc _)) .nil)))))
def payS (n:Int) (s:ISt):ISt:=⟨s.last,s.cost+n⟩
theorem payU (ts:TS) (tb:Nat) (s:ISt) (n:Int) (hs : -1000000≤s.cost∧s.cost≤1000000) (hn:0≤n∧n≤1000000) {mu:Mu} {xb:Nat} (hx:mu[xb]?=some (.arr (cIn ts tb s))) :
  qW Tryz.prog 112 [.ptr xb 0,aI n] mu fun e m=>m=mu.set xb (.arr (cIn ts tb (payS n s)))∧e=if s.cost+n≤4000 then .ret (.tup []) else .pan (jq 2 0):=by
 refine qSW Tryz.call112 Tryz.func112 rfl {} ?_;have w1:IntKind.i64.wrap (s.cost+n)=s.cost+n:=qy (by omega) (by omega);have hxl:xb<mu.length:=(qv.1 hx).1;have hx1:∀ c,(mu.set xb c)[xb]?=some c:=fun c=>zd hxl
 simp [go_sem,hx,hx1,w1];by_cases hc:s.cost+n≤4000
 ·simp [go_sem,hc]
  refine qc.pure (zN true 2 nd0).toP (.cons (.hf (HF.sc _)) (.cons (.hf (HF.sc _)) (.cons kH .nil))) ?_;simp [go_sem];rfl
 ·simp [go_sem,hc]
  refine qc.pans (zN false 2 nd0) (.cons (.hf (HF.sc _)) (.cons (.hf (HF.sc _)) (.cons kH .nil))) ?_;simp [go_sem];exact ⟨rfl,rfl⟩
theorem lookE {mu:Mu} (env:IEnv) (nm:ByteArray):yT Tryz.prog mu 129 (eEnv env) (aS nm) true=some (match getK nm env with | some v => .tup [eIV v,aB true] | none => .tup [eIV ⟨none,0,⟨#[]⟩⟩,aB false]):=by
 have:=keyS.lookS (et:=181) (t:=129) (by simp [go_sem]) (mu:=mu) (venc:=eIV) (es:=env) (k:=nm) trivial (fun _ _=>trivial) (z:=eIV ⟨none,0,⟨#[]⟩⟩) (by simp [go_sem,aArg]) true;rw [this];cases getK nm env<;>rfl
def uc (env:IEnv) (n:Nd) (s:ISt):Except Dg ((Nd×Int)×ISt):=
 match getK n.name env with
 |none => .ok ((n,1),s)
 |some v=>match v.arg with
  |none => .ok ((.mk n.op v.name n.n n.kids n.pos,1),s)
  |some a=>if s.cost+v.size≤4000 then .ok ((a,v.size),payS v.size s) else .error (2,0)
def endI (ts:TS) (tb:Nat) (mu:Mu) (xb:Nat) (r:Except Dg ((Nd×Int)×ISt)) (e:AEnd) (m:Mu):Prop:=
 match r with
 | .ok ((n,k),s)=>e = .ret (.tup [eNd n,aI k])∧m[xb]?=some (.arr (cIn ts tb s))∧(∀ i,i<mu.length→i≠xb→m[i]?=mu[i]?)∧mu.length≤m.length
 | .error d=>e = .pan (jq d.1 d.2)∧(∀ i,i<mu.length→i≠xb→m[i]?=mu[i]?)∧mu.length≤m.length
theorem qd3 (ts:TS) (tb:Nat) (s:ISt) (hs : -1000000≤s.cost∧s.cost≤500000) (env:IEnv) (hk:(env.map Prod.fst).Nodup) (hz:∀ e,e∈env→0≤e.2.size∧e.2.size≤500000) (n:Nd) {mu:Mu} {xb:Nat} (hx:mu[xb]?=some (.arr (cIn ts tb s))) :
  qW Tryz.prog 113 [.ptr xb 0,eEnv env,eNd n] mu (endI ts tb mu xb (uc env n s)):=by
 refine qSW Tryz.call113 Tryz.func113 rfl { mt:=[5] } ?_;have hl:=fun mu=>lookE (mu:=mu) env n.name
 have hxl:xb<mu.length:=(qv.1 hx).1;obtain ⟨B,hB⟩:∃ B,B=eEnv env:=⟨_,rfl⟩;rw [←hB];simp only [←hB] at hl;unfold uc;cases hv:getK n.name env with
 |none =>
  simp only [hv] at hl;simp [go_sem];refine OptK.intro _ (hl _) ?_;simp [go_sem,aArg];exact ⟨rfl,by rw [qz hxl];exact hx,fun i hi _=>qz hi,by simp⟩
 |some v =>
  simp only [hv] at hl;have hvz:=hz (n.name,v) ((Zm hk).1 hv);obtain ⟨va,vz,vn⟩:=v;cases va with
  |none =>
   simp [go_sem];refine OptK.intro _ (hl _) ?_;have hset:(cNd n).set 1 (AV.sc (Value.string vn))=cNd (.mk n.op vn n.n n.kids n.pos):=by
    obtain ⟨op,nm,nn,ks,pos⟩:=n;simp [yk,Nd.op,Nd.name,Nd.n,Nd.kids,Nd.pos]
   simp [go_sem,aArg,hset];exact ⟨rfl,by rw [qz hxl];exact hx,fun i hi _=>qz hi,by simp⟩
  |some a =>
   simp [go_sem];refine OptK.intro _ (hl _) ?_;simp [go_sem,aArg];have hvz':0≤vz∧vz≤500000:=hvz;refine qc.eff0 (payU ts tb s vz ⟨by omega,by omega⟩ ⟨by omega,by omega⟩ (by rw [qz hxl];exact hx)) ?_ ?_
   ·rintro r m ⟨rfl,e⟩
    by_cases hc:s.cost+vz≤4000
    ·rw [if_pos hc] at e
     cases e;rw [List.set_append_left _ _ hxl];simp [go_sem,hc];refine qx.move 5 1 (by kernel_rfl) (by kernel_rfl) ?_ ?_
     all_goals
      simp [go_sem];refine ⟨rfl,?_,fun i hi hne=>?_,by simp⟩
      ·rw [qz (by simpa using hxl),zd hxl];rfl
      ·rw [qz (by simpa using hi),qL (fun e=>hne e.symm)]
    ·rw [if_neg hc] at e;cases e
   ·rintro r m ⟨rfl,e⟩
    by_cases hc:s.cost+vz≤4000
    ·rw [if_pos hc] at e;cases e
    ·rw [if_neg hc] at e
     cases e;simp [go_sem,hc];refine ⟨rfl,fun i hi hne=>?_,by simp⟩;rw [qL (fun e=>hne e.symm),qz hi]
end Go.Proofs.YtcfopdccdeeleaaGreatDoor.YX


namespace Go.Proofs.YtcfopdccdeeleaaGreatDoor.Q1
open Go Go.Ev Go.Proofs Go.Proofs.YtcfopdccdeeleaaGreatDoor YM YS YF P1 P2 Y1 Y2 Y3 Y4 Y5 Y6 Y9
abbrev aU (x:Int):AV := .sc (.int .u8 x)
theorem kindU (op:Int):qt Tryz.prog 124 [aI op] (aU (kd op)):=by
 refine qSQ Tryz.call124 Tryz.func124 rfl {} ?_;simp [go_sem];unfold kd;by_cases h1:1≤op<;>by_cases h2:op≤15<;>by_cases h3:20≤op<;>by_cases h4:op≤23<;>by_cases h5:30≤op<;>by_cases h6:op≤51<;>first | omega | (simp [go_sem,h1,h2,h3,h4,h5,h6];exact .hf _ (HF.sc _))
def kwL:List ByteArray:=[⟨#[115,111,114,116]⟩,⟨#[111,114,100,101,114,101,100]⟩,⟨#[118,97,114]⟩,⟨#[102,105,101,108,100]⟩,⟨#[112,114,101,100]⟩,⟨#[102,97,99,116]⟩,⟨#[97,108,108]⟩,⟨#[115,111,109,101]⟩,⟨#[110,111]⟩,⟨#[111,110,101]⟩,⟨#[108,111,110,101]⟩,⟨#[97,108,119,97,121,115]⟩,⟨#[101,118,101,110,116,117,97,108,108,121]⟩,⟨#[97,102,116,101,114]⟩,⟨#[117,110,116,105,108]⟩,⟨#[110,111,110,101]⟩,⟨#[117,110,105,118]⟩,⟨#[105,100,101,110]⟩,⟨#[105,110]⟩,⟨#[110,111,116]⟩,⟨#[116,114,117,101]⟩,⟨#[102,97,108,115,101]⟩]
def kwB (s:ByteArray):Bool:=kwL.any fun x=>decide (x=s)
theorem qd4 (s:ByteArray):qt Tryz.prog 77 [aS s] (aB (kwB s)):=by
 refine qSQ Tryz.call77 Tryz.func77 rfl {} ?_;simp [go_sem];have hlen:kwL.length=22:=rfl;refine qD.upK 22 (fun k st=>st.tm 0=aS s∧st.tm 3 = .lst true (kwL.map fun s=>[aS s])∧st.tm 4=aI k∧st.mu=[]∧∀ j x,j<k→kwL[j]?=some x→x≠s) ?_ ?_
 ·refine ⟨by simp [go_sem],?_,by simp [go_sem],by simp [go_sem],fun j x hj=>absurd hj (by omega)⟩
  simp [go_sem,kwL]
 ·rintro k st hk ⟨e0,e3,e4,hm,hI⟩
  unfold kwB;generalize hK:kwL=K at *
  by_cases hkl:k=22
  ·subst hkl
   have hno:(K.any fun x=>decide (x=s))=false:=by
    rw [List.any_eq_false];intro x hx;obtain ⟨j,hj⟩:=List.mem_iff_getElem?.1 hx;simpa using hI j x (by have:=(qv.1 hj).1;omega) hj
   rw [hno];simp [go_sem,e0,e3,e4,hm,hlen];exact .hf _ (HF.sc _)
  ·have hlt:k<K.length:=by omega
   have hlt2:k<22:=by omega
   have hlt3:(k:Int)<22:=by omega
   have w1:IntKind.i64.wrap ((k:Int)+1)=(k:Int)+1:=qy (by omega) (by omega);by_cases hx:K[k]=s
   ·have hin:(K.any fun x=>decide (x=s))=true:=List.any_eq_true.2 ⟨K[k],qJ hlt,by simpa using hx⟩
    rw [hin];simp [go_sem,e0,e3,e4,hm,hlen,hlt,hlt2,hlt3,hx];exact .hf _ (HF.sc _)
   ·simp [go_sem,e0,e3,e4,hm,hlen,hlt,hlt2,hlt3,hx,zL hx,w1]
    try refine ⟨hlt2,Keep.mk' ?_⟩
    try refine Keep.mk' ?_
    refine ⟨by simp [go_sem,e0],by simp [go_sem,e3],by simp [go_sem],by simp [go_sem],fun j x hj hjx=>?_⟩;by_cases hjk:j=k
    ·subst hjk
     rw [qX hlt] at hjx;cases hjx;exact hx
    ·exact hI j x (by omega) hjx
def bys (l:List Int):ByteArray:=⟨(l.map fun x=>UInt8.ofNat x.toNat).toArray⟩
theorem qd5 (l:List Int) (x:Int):bys (l++[x])=bys l++⟨#[UInt8.ofNat x.toNat]⟩:=by
 apply ByteArray.ext;simp [bys]
theorem kI (l:List Int):(bys l).size=l.length:=by simp [bys,ByteArray.size]
def shpV (op:Int) (nk:Nat):AV:=match shp op nk with
 |some l => .tup [aS (bys l),aB true]
 |none => .tup [aS ⟨#[]⟩,aB false]
theorem Vj (mu:Mu) (a:ByteArray) (b:Bool):Rd mu (.tup [aS a,aB b]) (.tup [aS a,aB b]) := .hf _ (HF.tup fun c hc=>by simp at hc;rcases hc with rfl | rfl<;>exact HF.sc _)
theorem qd6 (nk:Nat) (hnk:nk≤100000):qt Tryz.prog 123 [aI 47,aI nk] (shpV 47 nk):=by
 refine qSQ Tryz.call123 Tryz.func123 rfl {} ?_;simp [go_sem];refine qD.upK (min nk 401) (fun k st=>st.tm 1=aI nk∧st.tm 6=aS (bys (List.replicate k 101))∧st.tm 7=aI k) ?_ ?_
 ·exact ⟨by simp [go_sem],by simp [go_sem,bys],by simp [go_sem]⟩
 ·rintro k st hk ⟨e1,e6,e7⟩
  by_cases hkl:k=min nk 401
  ·have hv:shpV 47 nk = .tup [aS (bys (List.replicate k 101)),aB true]:=by
    rw [hkl];rfl
   rw [hv];by_cases h1:nk≤k
   ·have h1':¬k<nk:=by omega
    simp [go_sem,e1,e6,e7,h1'];exact Vj _ _ _
   ·have h2:k=401:=by omega
    subst h2;have h3:401<nk:=by omega
    have h4:(401:Int)<nk:=by omega
    simp [go_sem,e1,e6,e7,h3,h4];exact Vj _ _ _
  ·have hlt:k<nk:=by omega
   have hlt2:k<401:=by omega
   have hlt3:(k:Int)<401:=by omega
   have w1:IntKind.i64.wrap ((k:Int)+1)=(k:Int)+1:=qy (by omega) (by omega);have hsz:(bys (List.replicate k 101)).size+1≤9223372036854775807:=by rw [kI,List.length_replicate];omega
   have hs2:bys (List.replicate k 101)++⟨#[101]⟩=bys (List.replicate (k+1) 101):=by
    rw [List.replicate_succ',qd5];rfl
   generalize bys (List.replicate k 101)=B at *
   simp [go_sem,e1,e6,e7,hlt,hlt2,hlt3,hsz,w1];refine ⟨by omega,Keep.mk' ?_⟩;exact ⟨by simp [go_sem,e1],by simp [go_sem,hs2],by simp [go_sem]⟩
theorem qd7 (op:Int) (nk:Nat) (hnk:nk≤100000):qt Tryz.prog 123 [aI op,aI nk] (shpV op nk):=by
 by_cases h47:op=47
 ·subst h47;exact qd6 nk hnk
 by_cases hr:1≤op∧op≤51
 ·have hd:op=1∨op=2∨op=3∨op=4∨op=5∨op=6∨op=7∨op=8∨op=9∨op=10∨op=11∨op=12∨op=13∨op=14∨op=15∨op=16∨op=17∨op=18∨op=19∨op=20∨op=21∨op=22∨op=23∨op=24∨op=25∨op=26∨op=27∨op=28∨op=29∨op=30∨op=31∨op=32∨op=33∨op=34∨op=35∨op=36∨op=37∨op=38∨op=39∨op=40∨op=41∨op=42∨op=43∨op=44∨op=45∨op=46∨op=48∨op=49∨op=50∨op=51:=by omega
  rcases hd with rfl | rfl | rfl | rfl | rfl | rfl | rfl | rfl | rfl | rfl | rfl | rfl | rfl | rfl | rfl | rfl | rfl | rfl | rfl | rfl | rfl | rfl | rfl | rfl | rfl | rfl | rfl | rfl | rfl | rfl | rfl | rfl | rfl | rfl | rfl | rfl | rfl | rfl | rfl | rfl | rfl | rfl | rfl | rfl | rfl | rfl | rfl | rfl | rfl | rfl
  all_goals
   refine qSQ Tryz.call123 Tryz.func123 rfl {} ?_;simp [go_sem,shpV,shp];exact Vj _ _ _
 ·have hno:∀ c:Int,1≤c→c≤51→(op=c)=False:=fun c h1 h2=>eq_false (by omega)
  have hn:shp op nk=none:=by
   unfold shp
   repeat rw [if_neg (by omega)]
  rw [shpV,hn];refine qSQ Tryz.call123 Tryz.func123 rfl {} ?_;simp [go_sem,hno];exact Vj _ _ _
end Go.Proofs.YtcfopdccdeeleaaGreatDoor.Q1


namespace Go.Proofs.YtcfopdccdeeleaaGreatDoor.Q2
open Go Go.Ev Go.Proofs Go.Proofs.YtcfopdccdeeleaaGreatDoor YM YS YF P1 P2 Y1 Y2 Y3 Y4 Y5 Y6 Y9 Q1
def fitB (op:Int) (ks:List Nd):Bool:=decide (shp op ks.length=some (ks.map fun k=>kd k.op))
theorem qd8 (l:List Int) (hb:∀ x,x∈l→0≤x∧x<256) (i:Nat) (h:i<l.length) (h':i<(bys l).data.size):(((bys l).data[i]).toNat:Int)=l[i]:=by
 have h1:=hb l[i] (qJ h);simp only [bys,List.getElem_toArray,VJ,UInt8.toNat_ofNat'];omega
theorem qd9 {op:Int} {nk:Nat} {l:List Int} (h:shp op nk=some l):∀ x,x∈l→0≤x∧x<256:=by
 unfold shp at h
 repeat' split at h
 all_goals first
  | (cases h;done)
  | (cases h;intro x hx;cases hx;done)
  | (cases h;intro x hx;rw [List.mem_replicate] at hx;omega)
  | (cases h;intro x hx;simp at hx;omega)
theorem fitsU (op:Int) (ks:List Nd) (hk:ks.length≤1000):qt Tryz.prog 80 [aI op,lNd ks] (aB (fitB op ks)):=by
 have hs:=qd7 op ks.length (by omega);unfold shpV at hs;cases hv:shp op ks.length with
 |none =>
  simp only [hv] at hs;have hf:fitB op ks=false:=by simp [fitB,hv]
  rw [hf];refine qSQ Tryz.call80 Tryz.func80 rfl {} ?_;simp [go_sem];refine qc.pure hs (.cons (.hf (HF.sc _)) (.cons (.hf (HF.sc _)) .nil)) ?_;simp [go_sem];exact .hf _ (HF.sc _)
 |some l =>
  simp only [hv] at hs;have hbs:=kI l;have hget:=qd8 l (qd9 hv);generalize bys l=B at *
  refine qSQ Tryz.call80 Tryz.func80 rfl {} ?_;simp [go_sem];refine qc.pure hs (.cons (.hf (HF.sc _)) (.cons (.hf (HF.sc _)) .nil)) ?_;by_cases hl:l.length=ks.length
  ·simp [go_sem,hbs,hl]
   refine qD.upK ks.length (fun k st=>st.tm 1=lNd ks∧st.tm 5=aS B∧st.tm 7=aI k∧∀ j,j<k→(ks[j]?).map (fun k=>kd k.op)=l[j]?) ?_ ?_
   ·exact ⟨by simp [go_sem],by simp [go_sem],by simp [go_sem],fun j hj=>absurd hj (by omega)⟩
   ·rintro k st hk ⟨e1,e5,e7,hI⟩
    by_cases hkl:k=ks.length
    ·subst hkl
     have hf:fitB op ks=true:=by
      rw [fitB,hv,decide_eq_true];congr 1;apply List.ext_getElem?;intro j;by_cases hj:j<ks.length
      ·rw [zM,hI j hj]
      ·rw [yx (by omega),yx (by simp;omega)]
     rw [hf];simp [go_sem,e1,e5,e7];exact .hf _ (HF.sc _)
    ·have hlt:k<ks.length:=by omega
     have w1:IntKind.i64.wrap ((k:Int)+1)=(k:Int)+1:=qy (by omega) (by omega);simp [go_sem,e1,e5,e7,hlt];refine qx.intro (by kernel_rfl) ?_;simp [go_sem,e1,e5,e7,hlt,qr];refine qc.pure (kindU ks[k].op) (.cons (.hf (HF.sc _)) .nil) ?_;have hlk:k<l.length:=by omega
     have hBk:k<B.data.size:=by have:B.data.size=l.length:=hbs;omega
     have hg:=hget k hlk hBk;by_cases hq:kd ks[k].op=l[k]
     ·have hq2:kd ks[k].op=((B.data[k]).toNat:Int):=by rw [hg];exact hq
      simp [go_sem,e1,e5,e7,hlt,hbs,hl,hq2,w1];refine Keep.mk' ?_;refine ⟨by simp [go_sem,e1],by simp [go_sem,e5],by simp [go_sem],fun j hj=>?_⟩;by_cases hjk:j=k
      ·subst hjk
       rw [qX hlt,qX hlk,Option.map_some,hq]
      ·exact hI j (by omega)
     ·have hq2:¬kd ks[k].op=((B.data[k]).toNat:Int):=by rw [hg];exact hq
      have hf:fitB op ks=false:=by
       rw [fitB,hv,decide_eq_false];intro e;injection e with e;apply hq;have:l[k]?=some (kd ks[k].op):=by rw [e,zM,qX hlt,Option.map_some]
       rw [qX hlk] at this;simpa using this.symm
      rw [hf];simp [go_sem,e1,e5,e7,hlt,hbs,hl,hq2];exact .hf _ (HF.sc _)
  ·have hf:fitB op ks=false:=by
    rw [fitB,hv,decide_eq_false];intro e;injection e with e;rw [e] at hl;simp at hl
   rw [hf];simp [go_sem,hbs,hl];exact .hf _ (HF.sc _)
end Go.Proofs.YtcfopdccdeeleaaGreatDoor.Q2


namespace Go.Proofs.YtcfopdccdeeleaaGreatDoor.Q3
open Go Go.Ev Go.Proofs Go.Proofs.YtcfopdccdeeleaaGreatDoor YM YS YF P1 P2 Y1 Y2 Y3 Y4 Y5 Y6 Y9 Q1 Q2
def letC (c:Int):Bool:=(decide (97≤c)&&decide (c≤122))||(decide (65≤c)&&decide (c≤90))
def chB (i:Nat) (c:Int):Bool:=letC c||(!decide (i=0)&&(decide (c=95)||(decide (48≤c)&&decide (c≤57))))
def vC (s:ByteArray):Bool:=decide (1≤s.size)&&decide (s.size≤16)&&!kwB s&&(List.range s.size).all fun i=>match s.data[i]? with | some c=>chB i c.toNat | none=>true
theorem qeA (s:ByteArray):qt Tryz.prog 28 [aS s] (aB (vC s)):=by
 refine qSQ Tryz.call28 Tryz.func28 rfl {} ?_;by_cases h0:s.size=0
 ·have hn:vC s=false:=by simp [vC,h0]
  rw [hn];simp [go_sem,h0];exact .hf _ (HF.sc _)
 by_cases h16:16<s.size
 ·have hn:vC s=false:=by
   have:¬s.size≤16:=by omega
   simp [vC,this]
  rw [hn];have h16i:(16:Int)<s.size:=by omega
  simp [go_sem,h0,h16i];exact .hf _ (HF.sc _)
 have h16i:¬(16:Int)<s.size:=by omega
 simp [go_sem,h0,h16i];refine qc.pure (qd4 s) (.cons (.hf (HF.sc _)) .nil) ?_;cases hk:kwB s with
 |true =>
  have hn:vC s=false:=by simp [vC,hk]
  rw [hn];simp [go_sem,h0,h16];exact .hf _ (HF.sc _)
 |false =>
  simp [go_sem,h0,h16];refine qD.upK s.size (fun k st=>st.tm 0=aS s∧st.tm 3=aI k∧∀ j c,j<k→s.data[j]?=some c→chB j c.toNat=true) ?_ ?_
  ·exact ⟨by simp [go_sem],by simp [go_sem],fun j c hj=>absurd hj (by omega)⟩
  ·rintro k st hk2 ⟨e0,e2,hI⟩
   by_cases hkl:k=s.size
   ·have hn:vC s=true:=by
     simp only [vC,hk,Bool.not_false,Bool.and_true,Bool.and_eq_true,decide_eq_true_eq,List.all_eq_true,List.mem_range];refine ⟨⟨by omega,by omega⟩,fun i hi=>?_⟩;cases hc:s.data[i]? with
     |none=>rfl
     |some c=>exact hI i c (by omega) hc
    rw [hn];simp [go_sem,e0,e2,hkl];exact .hf _ (HF.sc _)
   ·have hlt:k<s.size:=by omega
    have hlt2:k<s.data.size:=hlt;have w1:IntKind.i64.wrap ((k:Int)+1)=(k:Int)+1:=qy (by omega) (by omega);have z1:IntKind.i64.wrap 1=1:=rfl;have hc0:s.data[k]?=some s.data[k]:=Array.getElem?_eq_getElem hlt2;simp [go_sem,e0,e2,hlt,hlt2];generalize hc:((s.data[k]).toNat:Int)=c at *
    cases hch:chB k c with
    |false =>
     have hn:vC s=false:=by
      rw [vC,Bool.and_eq_false_iff];refine .inr (List.all_eq_false.2 ⟨k,List.mem_range.2 hlt,?_⟩);simp only [hc0,hc,hch];simp
     rw [hn];by_cases a1:97≤c<;>by_cases a2:c≤122<;>by_cases a3:65≤c<;>by_cases a4:c≤90<;>by_cases a5:c=95<;>by_cases a6:c<48<;>by_cases a7:57<c<;>by_cases a8:k=0<;>first | omega | (exfalso;simp [chB,letC,a1,a2,a3,a4,a5,a6,a7,a8] at hch;done) | (exfalso;simp [chB,letC,a1,a2,a3,a4,a5,a6,a7,a8] at hch;omega) | skip
     all_goals
      simp [go_sem,e0,e2,a1,a2,a3,a4,a5,a6,a7,a8];exact .hf _ (HF.sc _)
    |true =>
     have hnext:∀ j d,j<k+1→s.data[j]?=some d→chB j d.toNat=true:=fun j d hj hd=>by
      by_cases hjk:j=k
      ·subst hjk
       rw [hc0] at hd;cases hd;rw [hc];exact hch
      ·exact hI j d (by omega) hd
     by_cases a1:97≤c<;>by_cases a2:c≤122<;>by_cases a3:65≤c<;>by_cases a4:c≤90<;>by_cases a5:c=95<;>by_cases a6:c<48<;>by_cases a7:57<c<;>by_cases a8:k=0<;>first | omega | (exfalso;simp [chB,letC,a1,a2,a3,a4,a5,a6,a7,a8] at hch;done) | (exfalso;simp [chB,letC,a1,a2,a3,a4,a5,a6,a7,a8] at hch;omega) | skip
     all_goals
      simp [go_sem,e0,e2,a1,a2,a3,a4,a5,a6,a7,a8,w1,z1]
      first
       |exact ⟨hlt,Keep.mk' ⟨by simp [go_sem,e0],by simp [go_sem],hnext⟩⟩
       | (subst a8;exact ⟨hlt,Keep.mk' ⟨by simp [go_sem,e0],by simp [go_sem],fun j d hj hd=>hnext j d (by omega) hd⟩⟩)
end Go.Proofs.YtcfopdccdeeleaaGreatDoor.Q3
