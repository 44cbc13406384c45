/-
  Own library, part 4: an abstract reading of values and a calculus over it; contracts of functions; plain lemmas.
-/
import Derived.Shelf.SlSortCmp.NoneTotal
import Derived.Lib.ItoaLen
import Derived.Test.YtcfopdccdeeleaaGreatDoorMc
set_option linter.unusedVariables false
set_option linter.unusedSimpArgs false
set_option maxRecDepth 100000


namespace Go.Proofs.YtcfopdccdeeleaaGreatDoor.YS
open Go Go.Ev Go.Proofs Y1 Y2 Y3 Y4 P1 YM Y5 Y6 Y7 Y8
theorem flat_rI (xs:List Int):(xs.map rI).flatten=xs.map aI:=by
 induction xs with
 |nil=>rfl
 |cons x xs ih=>simp [ih]
theorem ofCells {lo b n:Nat} {mu:Mu} {xs:List Int} (hb:lo≤b) (hc:mu[b]?=some (.arr (xs.map aI))) (hn:xs.length=n):OwnF lo mu 1 (.sl b 1 0 n) (xs.map rI):=by
 have hl:b<mu.length:=(List.getElem?_eq_some_iff.1 hc).1
 refine ⟨.inr ⟨b,by simp [hn],by rw [hc,flat_rI]⟩,fun b' s o l e=>?_,by omega⟩
 injection e;omega
theorem gPow : Tryz.prog.globalNamed "internal/strconv.uint64pow10" = some 0 := by kernel_rfl
theorem tabIs {G : Gh} {mu : Mu} {w : World} (s : Sim G mu w.heap) : Lib.TabIs Tryz.prog w "internal/strconv.uint64pow10" .u64 Lib.pow10Tab := by
  obtain ⟨_,e,fr,h⟩:=s.tab (0,[.int .u64 1,.int .u64 10,.int .u64 100,.int .u64 1000,.int .u64 10000,.int .u64 100000,.int .u64 1000000,.int .u64 10000000,.int .u64 100000000,.int .u64 1000000000,.int .u64 10000000000,.int .u64 100000000000,.int .u64 1000000000000,.int .u64 10000000000000,.int .u64 100000000000000,.int .u64 1000000000000000,.int .u64 10000000000000000,.int .u64 100000000000000000,.int .u64 1000000000000000000,.int .u64 10000000000000000000]) (by simp [tabs])
  unfold Lib.TabIs World.var?
  rw [gPow]
  simp only [Option.bind_some,h]
  rfl
def itoaB (n:Int):ByteArray:=⟨(Lib.itoa n).toArray⟩
theorem itoaU (n:Int) (h0 : -9223372036854775808≤n) (h1:n≤9223372036854775807):SoundP Tryz.prog 175 [aI n] (aS (itoaB n)):=by
 refine ⟨Tryz.call175,fun imm w vs hi ra=>?_⟩
 obtain ⟨v,rfl,rv⟩:=ra.one_inv
 cases rv
 refine (Tryz.strconv_Itoa n h0 h1 w (tabIs hi)).mono fun e w' ⟨he,k,os,hw⟩=>?_
 subst hw
 have st1:Stp ⟨imm,[]⟩ [] w ⟨imm,[]⟩ [] (w.drewN k):=⟨.refl _,hi,fun _ _ _=>rfl,Nat.le_refl _,fun _ h => .inl h,fun _ h => .inl h,rfl,rfl,rfl,Nat.le_add_right _ _⟩
 have st:=st1.trans hi (Stp.grow st1.sim os)
 exact ⟨imm,_,he,fun _ h=>h,fun b hb=>⟨st.sim.imm b hb,.inl hb⟩,⟨⟨st.os,st.tape,st.output,st.size,fun b hb=>st.keep b hb (fun ⟨i,c,t,hc,_⟩=>by simp at hc)⟩,st.drawn⟩,.sc _ rfl⟩
theorem mulB (x y:Nat) (hx:x<18446744073709551616) (hy:y<18446744073709551616) :
  SoundP Tryz.prog 176 [.sc (.int .u64 x),.sc (.int .u64 y)] (.tup [.sc (.int .u64 ((x*y / 18446744073709551616:Nat):Int)),.sc (.int .u64 ((x*y % 18446744073709551616:Nat):Int))]):=
 SoundP.of_still Tryz.call176 (fun G h us r=>argsRel_sc2 r) (fun w=>Tryz.bits_Mul x y hx hy w) fun G h => .tup _ _ rfl fun k z hk=>by
  match k with
  | 0=>simp at hk;subst hk;exact .sc _ rfl
  | 1=>simp at hk;subst hk;exact .sc _ rfl
  |k+2=>simp at hk
theorem wrap_u64 {n:Int} (h0:0≤n) (h1:n≤18446744073709551615):IntKind.u64.wrap n=n:=IntWalk.u64_in n ⟨h0,h1⟩
theorem rowsOf_one {mu:Mu} {b off len:Nat} {cells:List AV} (hc:mu[b]?=some (.arr cells)) (hl:off+len≤cells.length):rowsOf mu (.sl b 1 off len)=some (((cells.drop off).take len).map fun c=>[c]):=by
 simp only [rowsOf,hc]
 rw [if_pos (by omega)]
 congr 1
 apply List.ext_getElem?
 intro i
 by_cases hi:i<len
 ·simp only [List.getElem?_map,List.getElem?_range hi,Option.map_some,Nat.mul_one]
  rw [List.getElem?_take,if_pos hi,List.getElem?_drop,List.getElem?_eq_getElem (show off+i<cells.length by omega)]
  rw [List.drop_eq_getElem_cons (show off+i<cells.length by omega)];rfl
 ·rw [List.getElem?_eq_none (by simp;omega),List.getElem?_eq_none (by simp;omega)]
theorem flat_one (l:List AV):(l.map fun c=>[c]).flatten=l:=by
 induction l with
 |nil=>rfl
 |cons x l ih=>simp only [List.map_cons,List.flatten_cons,ih];rfl
theorem rows_one {l:List AV} (h:∀ c,c∈l→c.one=true):rowsWf 1 (l.map fun c=>[c]):=fun r hr=>by
 obtain ⟨c,hc,rfl⟩:=List.mem_map.1 hr
 exact ⟨rfl,by simp [h c hc]⟩
def rep (s:Int) (k m:Nat):List AV:=List.replicate m (aI s)++List.replicate (k-m) (aI 0)
theorem rep_len (s:Int) (k m:Nat) (h:m≤k):(rep s k m).length=k:=by simp [rep];omega
theorem rep_take (s:Int) (k m j:Nat) (h:j≤m):(rep s k m).take j=List.replicate j (aI s):=by
 rw [rep,List.take_append_of_le_length (by simpa using h),List.take_replicate,Nat.min_eq_left h]
theorem rep_put (s:Int) (k m j:Nat) (hm:m≤k) (h:m+j≤k):putCells (rep s k m) m (List.replicate j (aI s))=rep s k (m+j):=by
 rw [putCells_eq _ _ _ (by rw [rep_len _ _ _ hm];simpa using h)]
 rw [rep_take _ _ _ _ (Nat.le_refl m),List.replicate_append_replicate]
 have:List.drop (m+(List.replicate j (aI s)).length) (rep s k m)=List.replicate (k-(m+j)) (aI 0):=by
  rw [rep,List.length_replicate,List.drop_append,List.drop_of_length_le (by simp),List.nil_append,List.length_replicate,List.drop_replicate]
  congr 1;omega
 rw [this];rfl
theorem repeatI (s:Int) (k:Nat) (hk:k≤5):SoundP Tryz.prog 164 [lI [s],aI k] (lI (List.replicate k s)):=by
 refine SoundP.of_sound (Sound.of_awp Tryz.call164 Tryz.func164 rfl (Nat.le_of_ble_eq_true (by kernel_rfl)) (by kernel_rfl) (pl:={}) ?_)
 have w1:IntKind.u64.wrap (k:Int)=k:=wrap_u64 (by omega) (by omega)
 have w2:IntKind.u64.wrap 1=1:=wrap_u64 (by omega) (by omega)
 have w3:IntKind.i64.wrap (k:Int)=k:=wrap_i64 (by omega) (by omega)
 simp [go_sem,show ¬(k:Int)<0 by omega,w1,w2]
 refine CallStep.pure (mulB 1 k (by omega) (by omega)) (.cons (.hf (HF.sc _)) (.cons (.hf (HF.sc _)) .nil)) ?_
 rw [show 1*k / 18446744073709551616=0 by omega,show 1*k % 18446744073709551616=k by omega]
 simp [go_sem,show ¬(9223372036854775807:Int)<k by omega,w3,show (k:Int)≤4294967296 by omega]
 refine ExtGo_copy (ys:=[[aI s]]) (by simp [go_sem]) rfl (by simp) rfl (rows_rI [s]) ?_
 have e0:putCells (List.replicate k (aI 0)) 0 (([[aI s]]:List (List AV)).take k).flatten=rep s k (min 1 k):=by
  have:=rep_put s k 0 (min 1 k) (by omega) (by omega)
  rw [Nat.zero_add] at this
  rw [←this]
  cases k with
  |zero=>rfl
  |succ k=>rw [show min 1 (k+1)=1 by omega];simp [rep]
 simp only [e0]
 simp [go_sem]
 refine LoopGo.keep (fun n st=>∃ m,n=k-m∧m≤k∧(k=m∨1≤m)∧st.tm 7 = .sl 0 1 0 k∧st.tm 8=aI m∧st.mu=[.arr (rep s k m)]) (k-min 1 k) ?_ ?_
 ·exact ⟨min 1 k,rfl,by omega,by omega,by simp [go_sem],by simp [go_sem],by simp [go_sem]⟩
 rintro n st ⟨m,rfl,hm,hm1,e7,e8,em⟩
 by_cases hlt:m<k
 ·have hc:rowsOf [.arr (rep s k m)] (.sl 0 1 0 m)=some ((List.replicate m (aI s)).map fun c=>[c]):=by
   rw [rowsOf_one (cells:=rep s k m) rfl (by rw [rep_len _ _ _ hm];omega)]
   rw [List.drop_zero,rep_take _ _ _ _ (Nat.le_refl m)]
  simp [go_sem,e7,e8,em,hlt,show m≤k by omega]
  refine DrawGo.intro (by kernel_rfl) ?_
  simp [go_sem,e7,e8,em,hlt,show m≤k by omega]
  refine ExtGo_copy (cells:=rep s k m) (by simp [go_sem]) rfl (by rw [rep_len _ _ _ hm];omega) hc (rows_one fun c hc=>by rw [List.eq_of_mem_replicate hc];rfl) ?_
  have e1:putCells (rep s k m) m ((((List.replicate m (aI s)).map fun c=>[c]).take (k-m)).flatten)=rep s k (m+min m (k-m)):=by
   rw [←List.map_take,flat_one,List.take_replicate,Nat.min_comm]
   exact rep_put s k m _ hm (by omega)
  simp only [e1]
  simp [go_sem,e7,e8,em]
  refine Keep.loop (k-(m+min m (k-m))) (by omega) ⟨m+min m (k-m),rfl,by omega,by omega,by simp [go_sem,e7],?_,by simp [go_sem]⟩
  simp [go_sem]
  rw [wrap_i64 (by omega) (by omega)]
 ·obtain rfl:m=k:=by omega
  simp [go_sem,e7,e8,em]
  have:rep s m m=(List.replicate m s).map aI:=by simp [rep]
  rw [this]
  exact (ofCells (lo:=0) (mu:=[.arr ((List.replicate m s).map aI)]) (b:=0) (Nat.zero_le _) rfl (by simp)).rdI
end Go.Proofs.YtcfopdccdeeleaaGreatDoor.YS


namespace Go.Proofs.YtcfopdccdeeleaaGreatDoor.YF
open Go Go.Ev Go.Proofs Y1 Y2 Y3 Y4 P1 YM Y5 Y6 Y7 Y8 YS
abbrev cPm (p:ByteArray×Int):List AV:=[aS p.1,aI p.2]
abbrev lPm (l:List (ByteArray×Int)):AV := .lst false (l.map cPm)
abbrev cPd (p:Pd):List AV:=aS p.name :: lPm p.params :: cNd p.body
abbrev lPd (l:List Pd):AV := .lst false (l.map cPd)
abbrev cFa (f:ByteArray×Nd):List AV:=aS f.1 :: cNd f.2
abbrev lSo (l:List (ByteArray×Bool)):AV := .lst false (l.map cSort)
abbrev lFl (l:List Fld):AV := .lst false (l.map cField)
abbrev lFa (l:List (ByteArray×Nd)):AV := .lst false (l.map cFa)
abbrev cTS (s:TS):List AV:=[lSo s.sorts,lFl s.fields,lPd s.preds,lFa s.facts]
abbrev eTS (s:TS):AV := .agg (cTS s)
theorem hf_cPm (p:ByteArray×Int):∀ c,c∈cPm p→HF c:=by
 intro c hc;simp at hc;rcases hc with rfl | rfl<;>exact HF.sc _
theorem hf_lPm (l:List (ByteArray×Int)):HF (lPm l):=HF.lst fun r hr c hc=>by
 obtain ⟨p,_,rfl⟩:=List.mem_map.1 hr;exact hf_cPm p c hc
theorem hf_cPd (p:Pd):∀ c,c∈cPd p→HF c:=by
 intro c hc
 simp only [cPd,List.mem_cons] at hc
 rcases hc with rfl | rfl | hc
 ·exact HF.sc _
 ·exact hf_lPm _
 ·exact hf_cNd p.body c hc
theorem hf_lPd (l:List Pd):HF (lPd l):=HF.lst fun r hr c hc=>by
 obtain ⟨p,_,rfl⟩:=List.mem_map.1 hr;exact hf_cPd p c hc
theorem hf_cFa (p:ByteArray×Nd):∀ c,c∈cFa p→HF c:=by
 intro c hc
 simp only [cFa,List.mem_cons] at hc
 rcases hc with rfl | hc
 ·exact HF.sc _
 ·exact hf_cNd p.2 c hc
theorem hf_lFa (l:List (ByteArray×Nd)):HF (lFa l):=HF.lst fun r hr c hc=>by
 obtain ⟨p,_,rfl⟩:=List.mem_map.1 hr;exact hf_cFa p c hc
theorem hf_cSo (p:ByteArray×Bool):∀ c,c∈cSort p→HF c:=by
 intro c hc;simp at hc;rcases hc with rfl | rfl<;>exact HF.sc _
theorem hf_lSo (l:List (ByteArray×Bool)):HF (lSo l):=HF.lst fun r hr c hc=>by
 obtain ⟨p,_,rfl⟩:=List.mem_map.1 hr;exact hf_cSo p c hc
theorem hf_lFl (l:List Fld):HF (lFl l):=HF.lst fun r hr c hc=>by
 obtain ⟨p,_,rfl⟩:=List.mem_map.1 hr;exact hf_cField p c hc
theorem hf_cTS (s:TS):∀ c,c∈cTS s→HF c:=by
 intro c hc
 simp only [cTS,List.mem_cons,List.not_mem_nil,or_false] at hc
 rcases hc with rfl | rfl | rfl | rfl
 ·exact hf_lSo _
 ·exact hf_lFl _
 ·exact hf_lPd _
 ·exact hf_lFa _
theorem hf_eTS (s:TS):HF (eTS s):=HF.agg (hf_cTS s)
theorem cNd_row (n:Nd):(cNd n).length=5∧(cNd n).all AV.one=true:=⟨cNd_len n,cNd_one n⟩
theorem cPd_row (p:Pd):(cPd p).length=7∧(cPd p).all AV.one=true:=⟨by simp [cPd,cNd_len],by simp only [cPd,List.all_cons,cNd_one];rfl⟩
theorem cFa_row (p:ByteArray×Nd):(cFa p).length=6∧(cFa p).all AV.one=true:=⟨by simp [cFa,cNd_len],by simp only [cFa,List.all_cons,cNd_one];rfl⟩
theorem cSort_row (p:ByteArray×Bool):(cSort p).length=2∧(cSort p).all AV.one=true:=⟨rfl,rfl⟩
theorem cField_row (p:Fld):(cField p).length=3∧(cField p).all AV.one=true:=⟨rfl,rfl⟩
theorem cPm_row (p:ByteArray×Int):(cPm p).length=2∧(cPm p).all AV.one=true:=⟨rfl,rfl⟩
def FnOkP (P:Program) (fv:AV) {α:Type} (xs:List α) (enc:α→AV) (g:α→Bool):Prop:=
 ∃ f first caps,fv = .fn (.func f) first caps∧∀ x,x∈xs→∃ args',SoundP P f args' (aB (g x))∧WKs (first++[enc x]++caps) args'
def idxI {α:Type} (xs:List α) (g:α→Bool):Int:=match xs.findIdx? g with | some i=>i | none => -1
theorem idxI_at {α:Type} {xs:List α} {g:α→Bool} {k:Nat} (hk:k<xs.length) (hg:g xs[k]=true) (hb:∀(j:Nat) (h:j<xs.length),j<k→g xs[j]=false):idxI xs g=k:=by
 unfold idxI
 have:xs.findIdx? g=some k:=by
  rw [List.findIdx?_eq_some_iff_getElem]
  exact ⟨hk,hg,fun j hj=>by rw [hb j (by omega) hj];simp⟩
 rw [this]
theorem idxI_none {α:Type} {xs:List α} {g:α→Bool} (hb:∀(j:Nat) (h:j<xs.length),g xs[j]=false):idxI xs g = -1:=by
 unfold idxI
 have:xs.findIdx? g=none:=by
  rw [List.findIdx?_eq_none_iff]
  intro x hx
  obtain ⟨j,hj,rfl⟩:=List.mem_iff_getElem.1 hx
  exact hb j hj
 rw [this]
theorem idxI_any {α:Type} (xs:List α) (g:α→Bool):decide (0≤idxI xs g)=xs.any g:=by
 unfold idxI
 cases h:xs.findIdx? g with
 |none =>
  rw [List.findIdx?_eq_none_iff] at h
  have:xs.any g=false:=by
   rw [←Bool.not_eq_true,List.any_eq_true]
   rintro ⟨x,hx,hg⟩
   rw [h x hx] at hg;exact absurd hg (by simp)
  rw [this];rfl
 |some i =>
  rw [List.findIdx?_eq_some_iff_getElem] at h
  obtain ⟨hi,hg,_⟩:=h
  have:xs.any g=true:=List.any_eq_true.2 ⟨_,List.getElem_mem hi,hg⟩
  rw [this];simp
theorem idxNd (full:Bool) (xs:List (Nd)) (fv:AV) (g:Nd→Bool) (hf:FnOkP Tryz.prog fv xs (fun x => .agg (cNd x)) g) (hl:xs.length≤1000000000000):SoundP Tryz.prog 161 [.lst full (xs.map cNd),fv] (aI (idxI xs g)):=by
 refine SoundP.of_sound (Sound.of_awp Tryz.call161 Tryz.func161 rfl (Nat.le_of_ble_eq_true (by kernel_rfl)) (by kernel_rfl) (pl:={}) ?_)
 obtain ⟨f,first,caps,rfl,hf⟩:=hf
 simp [go_sem]
 refine LoopGo.up xs.length (fun k st=>st.tm 0 = .lst full (xs.map cNd)∧st.tm 1 = .fn (.func f) first caps∧st.tm 6 = .lst full (xs.map cNd)∧st.tm 7=aI xs.length∧st.tm 8=aI k∧st.mu=[]∧∀(j:Nat) (h:j<xs.length),j<k→g xs[j]=false) ?_ ?_
 ·simp [go_sem]
 ·rintro k st hk ⟨e0,e1,e6,e7,e8,hm,hb⟩
  by_cases he:k=xs.length
  ·subst he
   simp [go_sem,e0,e1,e6,e7,e8,hm]
   rw [idxI_none (fun j h=>hb j h h)]
   exact .hf _ (HF.sc _)
  ·have hlt:k<xs.length:=by omega
   obtain ⟨args',hs,hw⟩:=hf xs[k] (List.getElem_mem hlt)
   have hw':=wrap_i64 (n:=((k+1:Nat):Int)) (by omega) (by omega)
   simp [go_sem,e0,e1,e6,e7,e8,hm,hlt,cNd_row xs[k],cNd_ones]
   refine .inl ⟨_,.inl ⟨f,first,caps,args',rfl,hs,.inl hw⟩,?_⟩
   cases hg:g xs[k] with
   |true =>
    simp [go_sem,e0,e1,e6,e7,e8,hm]
    rw [idxI_at hlt hg (fun j h hj=>hb j h hj)]
    exact .hf _ (HF.sc _)
   |false =>
    simp [go_sem,e0,e1,e6,e7,e8,hm,hlt]
    simp at hw'
    refine ⟨hw',fun j h hj=>?_⟩
    by_cases hjk:j=k
    ·subst hjk;exact hg
    ·exact hb j h (by omega)
theorem hasNd (full:Bool) (xs:List (Nd)) (fv:AV) (g:Nd→Bool) (hf:FnOkP Tryz.prog fv xs (fun x => .agg (cNd x)) g) (hh:HF fv) (hh2:HF (.lst full (xs.map cNd))) (hl:xs.length≤1000000000000):SoundP Tryz.prog 125 [.lst full (xs.map cNd),fv] (aB (xs.any g)):=by
 refine SoundP.of_sound (Sound.of_awp Tryz.call125 Tryz.func125 rfl (Nat.le_of_ble_eq_true (by kernel_rfl)) (by kernel_rfl) (pl:={}) ?_)
 simp [go_sem]
 refine CallStep.pure (idxNd full xs fv g hf hl) (.cons (.hf hh2) (.cons (.hf hh) .nil)) ?_
 simp [go_sem]
 rw [idxI_any]
 exact .hf _ (HF.sc _)
theorem idxPd (full:Bool) (xs:List (Pd)) (fv:AV) (g:Pd→Bool) (hf:FnOkP Tryz.prog fv xs (fun x => .agg (cPd x)) g) (hl:xs.length≤1000000000000):SoundP Tryz.prog 114 [.lst full (xs.map cPd),fv] (aI (idxI xs g)):=by
 refine SoundP.of_sound (Sound.of_awp Tryz.call114 Tryz.func114 rfl (Nat.le_of_ble_eq_true (by kernel_rfl)) (by kernel_rfl) (pl:={}) ?_)
 obtain ⟨f,first,caps,rfl,hf⟩:=hf
 simp [go_sem]
 refine LoopGo.up xs.length (fun k st=>st.tm 0 = .lst full (xs.map cPd)∧st.tm 1 = .fn (.func f) first caps∧st.tm 6 = .lst full (xs.map cPd)∧st.tm 7=aI xs.length∧st.tm 8=aI k∧st.mu=[]∧∀(j:Nat) (h:j<xs.length),j<k→g xs[j]=false) ?_ ?_
 ·simp [go_sem]
 ·rintro k st hk ⟨e0,e1,e6,e7,e8,hm,hb⟩
  by_cases he:k=xs.length
  ·subst he
   simp [go_sem,e0,e1,e6,e7,e8,hm]
   rw [idxI_none (fun j h=>hb j h h)]
   exact .hf _ (HF.sc _)
  ·have hlt:k<xs.length:=by omega
   obtain ⟨args',hs,hw⟩:=hf xs[k] (List.getElem_mem hlt)
   have hw':=wrap_i64 (n:=((k+1:Nat):Int)) (by omega) (by omega)
   simp [go_sem,e0,e1,e6,e7,e8,hm,hlt,cPd_row xs[k],cNd_ones]
   refine .inl ⟨_,.inl ⟨f,first,caps,args',rfl,hs,.inl hw⟩,?_⟩
   cases hg:g xs[k] with
   |true =>
    simp [go_sem,e0,e1,e6,e7,e8,hm]
    rw [idxI_at hlt hg (fun j h hj=>hb j h hj)]
    exact .hf _ (HF.sc _)
   |false =>
    simp [go_sem,e0,e1,e6,e7,e8,hm,hlt]
    simp at hw'
    refine ⟨hw',fun j h hj=>?_⟩
    by_cases hjk:j=k
    ·subst hjk;exact hg
    ·exact hb j h (by omega)
theorem hasPd (full:Bool) (xs:List (Pd)) (fv:AV) (g:Pd→Bool) (hf:FnOkP Tryz.prog fv xs (fun x => .agg (cPd x)) g) (hh:HF fv) (hh2:HF (.lst full (xs.map cPd))) (hl:xs.length≤1000000000000):SoundP Tryz.prog 104 [.lst full (xs.map cPd),fv] (aB (xs.any g)):=by
 refine SoundP.of_sound (Sound.of_awp Tryz.call104 Tryz.func104 rfl (Nat.le_of_ble_eq_true (by kernel_rfl)) (by kernel_rfl) (pl:={}) ?_)
 simp [go_sem]
 refine CallStep.pure (idxPd full xs fv g hf hl) (.cons (.hf hh2) (.cons (.hf hh) .nil)) ?_
 simp [go_sem]
 rw [idxI_any]
 exact .hf _ (HF.sc _)
theorem idxSo (full:Bool) (xs:List (ByteArray×Bool)) (fv:AV) (g:ByteArray×Bool→Bool) (hf:FnOkP Tryz.prog fv xs (fun x => .agg (cSort x)) g) (hl:xs.length≤1000000000000):SoundP Tryz.prog 154 [.lst full (xs.map cSort),fv] (aI (idxI xs g)):=by
 refine SoundP.of_sound (Sound.of_awp Tryz.call154 Tryz.func154 rfl (Nat.le_of_ble_eq_true (by kernel_rfl)) (by kernel_rfl) (pl:={}) ?_)
 obtain ⟨f,first,caps,rfl,hf⟩:=hf
 simp [go_sem]
 refine LoopGo.up xs.length (fun k st=>st.tm 0 = .lst full (xs.map cSort)∧st.tm 1 = .fn (.func f) first caps∧st.tm 6 = .lst full (xs.map cSort)∧st.tm 7=aI xs.length∧st.tm 8=aI k∧st.mu=[]∧∀(j:Nat) (h:j<xs.length),j<k→g xs[j]=false) ?_ ?_
 ·simp [go_sem]
 ·rintro k st hk ⟨e0,e1,e6,e7,e8,hm,hb⟩
  by_cases he:k=xs.length
  ·subst he
   simp [go_sem,e0,e1,e6,e7,e8,hm]
   rw [idxI_none (fun j h=>hb j h h)]
   exact .hf _ (HF.sc _)
  ·have hlt:k<xs.length:=by omega
   obtain ⟨args',hs,hw⟩:=hf xs[k] (List.getElem_mem hlt)
   have hw':=wrap_i64 (n:=((k+1:Nat):Int)) (by omega) (by omega)
   simp [go_sem,e0,e1,e6,e7,e8,hm,hlt,cSort_row xs[k],cNd_ones]
   refine .inl ⟨_,.inl ⟨f,first,caps,args',rfl,hs,.inl hw⟩,?_⟩
   cases hg:g xs[k] with
   |true =>
    simp [go_sem,e0,e1,e6,e7,e8,hm]
    rw [idxI_at hlt hg (fun j h hj=>hb j h hj)]
    exact .hf _ (HF.sc _)
   |false =>
    simp [go_sem,e0,e1,e6,e7,e8,hm,hlt]
    simp at hw'
    refine ⟨hw',fun j h hj=>?_⟩
    by_cases hjk:j=k
    ·subst hjk;exact hg
    ·exact hb j h (by omega)
theorem hasSo (full:Bool) (xs:List (ByteArray×Bool)) (fv:AV) (g:ByteArray×Bool→Bool) (hf:FnOkP Tryz.prog fv xs (fun x => .agg (cSort x)) g) (hh:HF fv) (hh2:HF (.lst full (xs.map cSort))) (hl:xs.length≤1000000000000):SoundP Tryz.prog 100 [.lst full (xs.map cSort),fv] (aB (xs.any g)):=by
 refine SoundP.of_sound (Sound.of_awp Tryz.call100 Tryz.func100 rfl (Nat.le_of_ble_eq_true (by kernel_rfl)) (by kernel_rfl) (pl:={}) ?_)
 simp [go_sem]
 refine CallStep.pure (idxSo full xs fv g hf hl) (.cons (.hf hh2) (.cons (.hf hh) .nil)) ?_
 simp [go_sem]
 rw [idxI_any]
 exact .hf _ (HF.sc _)
theorem idxFl (full:Bool) (xs:List (Fld)) (fv:AV) (g:Fld→Bool) (hf:FnOkP Tryz.prog fv xs (fun x => .agg (cField x)) g) (hl:xs.length≤1000000000000):SoundP Tryz.prog 155 [.lst full (xs.map cField),fv] (aI (idxI xs g)):=by
 refine SoundP.of_sound (Sound.of_awp Tryz.call155 Tryz.func155 rfl (Nat.le_of_ble_eq_true (by kernel_rfl)) (by kernel_rfl) (pl:={}) ?_)
 obtain ⟨f,first,caps,rfl,hf⟩:=hf
 simp [go_sem]
 refine LoopGo.up xs.length (fun k st=>st.tm 0 = .lst full (xs.map cField)∧st.tm 1 = .fn (.func f) first caps∧st.tm 6 = .lst full (xs.map cField)∧st.tm 7=aI xs.length∧st.tm 8=aI k∧st.mu=[]∧∀(j:Nat) (h:j<xs.length),j<k→g xs[j]=false) ?_ ?_
 ·simp [go_sem]
 ·rintro k st hk ⟨e0,e1,e6,e7,e8,hm,hb⟩
  by_cases he:k=xs.length
  ·subst he
   simp [go_sem,e0,e1,e6,e7,e8,hm]
   rw [idxI_none (fun j h=>hb j h h)]
   exact .hf _ (HF.sc _)
  ·have hlt:k<xs.length:=by omega
   obtain ⟨args',hs,hw⟩:=hf xs[k] (List.getElem_mem hlt)
   have hw':=wrap_i64 (n:=((k+1:Nat):Int)) (by omega) (by omega)
   simp [go_sem,e0,e1,e6,e7,e8,hm,hlt,cField_row xs[k],cNd_ones]
   refine .inl ⟨_,.inl ⟨f,first,caps,args',rfl,hs,.inl hw⟩,?_⟩
   cases hg:g xs[k] with
   |true =>
    simp [go_sem,e0,e1,e6,e7,e8,hm]
    rw [idxI_at hlt hg (fun j h hj=>hb j h hj)]
    exact .hf _ (HF.sc _)
   |false =>
    simp [go_sem,e0,e1,e6,e7,e8,hm,hlt]
    simp at hw'
    refine ⟨hw',fun j h hj=>?_⟩
    by_cases hjk:j=k
    ·subst hjk;exact hg
    ·exact hb j h (by omega)
theorem hasFl (full:Bool) (xs:List (Fld)) (fv:AV) (g:Fld→Bool) (hf:FnOkP Tryz.prog fv xs (fun x => .agg (cField x)) g) (hh:HF fv) (hh2:HF (.lst full (xs.map cField))) (hl:xs.length≤1000000000000):SoundP Tryz.prog 102 [.lst full (xs.map cField),fv] (aB (xs.any g)):=by
 refine SoundP.of_sound (Sound.of_awp Tryz.call102 Tryz.func102 rfl (Nat.le_of_ble_eq_true (by kernel_rfl)) (by kernel_rfl) (pl:={}) ?_)
 simp [go_sem]
 refine CallStep.pure (idxFl full xs fv g hf hl) (.cons (.hf hh2) (.cons (.hf hh) .nil)) ?_
 simp [go_sem]
 rw [idxI_any]
 exact .hf _ (HF.sc _)
theorem idxPm (full:Bool) (xs:List (ByteArray×Int)) (fv:AV) (g:ByteArray×Int→Bool) (hf:FnOkP Tryz.prog fv xs (fun x => .agg (cPm x)) g) (hl:xs.length≤1000000000000):SoundP Tryz.prog 156 [.lst full (xs.map cPm),fv] (aI (idxI xs g)):=by
 refine SoundP.of_sound (Sound.of_awp Tryz.call156 Tryz.func156 rfl (Nat.le_of_ble_eq_true (by kernel_rfl)) (by kernel_rfl) (pl:={}) ?_)
 obtain ⟨f,first,caps,rfl,hf⟩:=hf
 simp [go_sem]
 refine LoopGo.up xs.length (fun k st=>st.tm 0 = .lst full (xs.map cPm)∧st.tm 1 = .fn (.func f) first caps∧st.tm 6 = .lst full (xs.map cPm)∧st.tm 7=aI xs.length∧st.tm 8=aI k∧st.mu=[]∧∀(j:Nat) (h:j<xs.length),j<k→g xs[j]=false) ?_ ?_
 ·simp [go_sem]
 ·rintro k st hk ⟨e0,e1,e6,e7,e8,hm,hb⟩
  by_cases he:k=xs.length
  ·subst he
   simp [go_sem,e0,e1,e6,e7,e8,hm]
   rw [idxI_none (fun j h=>hb j h h)]
   exact .hf _ (HF.sc _)
  ·have hlt:k<xs.length:=by omega
   obtain ⟨args',hs,hw⟩:=hf xs[k] (List.getElem_mem hlt)
   have hw':=wrap_i64 (n:=((k+1:Nat):Int)) (by omega) (by omega)
   simp [go_sem,e0,e1,e6,e7,e8,hm,hlt,cPm_row xs[k],cNd_ones]
   refine .inl ⟨_,.inl ⟨f,first,caps,args',rfl,hs,.inl hw⟩,?_⟩
   cases hg:g xs[k] with
   |true =>
    simp [go_sem,e0,e1,e6,e7,e8,hm]
    rw [idxI_at hlt hg (fun j h hj=>hb j h hj)]
    exact .hf _ (HF.sc _)
   |false =>
    simp [go_sem,e0,e1,e6,e7,e8,hm,hlt]
    simp at hw'
    refine ⟨hw',fun j h hj=>?_⟩
    by_cases hjk:j=k
    ·subst hjk;exact hg
    ·exact hb j h (by omega)
theorem hasPm (full:Bool) (xs:List (ByteArray×Int)) (fv:AV) (g:ByteArray×Int→Bool) (hf:FnOkP Tryz.prog fv xs (fun x => .agg (cPm x)) g) (hh:HF fv) (hh2:HF (.lst full (xs.map cPm))) (hl:xs.length≤1000000000000):SoundP Tryz.prog 106 [.lst full (xs.map cPm),fv] (aB (xs.any g)):=by
 refine SoundP.of_sound (Sound.of_awp Tryz.call106 Tryz.func106 rfl (Nat.le_of_ble_eq_true (by kernel_rfl)) (by kernel_rfl) (pl:={}) ?_)
 simp [go_sem]
 refine CallStep.pure (idxPm full xs fv g hf hl) (.cons (.hf hh2) (.cons (.hf hh) .nil)) ?_
 simp [go_sem]
 rw [idxI_any]
 exact .hf _ (HF.sc _)
theorem idxFa (full:Bool) (xs:List (ByteArray×Nd)) (fv:AV) (g:ByteArray×Nd→Bool) (hf:FnOkP Tryz.prog fv xs (fun x => .agg (cFa x)) g) (hl:xs.length≤1000000000000):SoundP Tryz.prog 157 [.lst full (xs.map cFa),fv] (aI (idxI xs g)):=by
 refine SoundP.of_sound (Sound.of_awp Tryz.call157 Tryz.func157 rfl (Nat.le_of_ble_eq_true (by kernel_rfl)) (by kernel_rfl) (pl:={}) ?_)
 obtain ⟨f,first,caps,rfl,hf⟩:=hf
 simp [go_sem]
 refine LoopGo.up xs.length (fun k st=>st.tm 0 = .lst full (xs.map cFa)∧st.tm 1 = .fn (.func f) first caps∧st.tm 6 = .lst full (xs.map cFa)∧st.tm 7=aI xs.length∧st.tm 8=aI k∧st.mu=[]∧∀(j:Nat) (h:j<xs.length),j<k→g xs[j]=false) ?_ ?_
 ·simp [go_sem]
 ·rintro k st hk ⟨e0,e1,e6,e7,e8,hm,hb⟩
  by_cases he:k=xs.length
  ·subst he
   simp [go_sem,e0,e1,e6,e7,e8,hm]
   rw [idxI_none (fun j h=>hb j h h)]
   exact .hf _ (HF.sc _)
  ·have hlt:k<xs.length:=by omega
   obtain ⟨args',hs,hw⟩:=hf xs[k] (List.getElem_mem hlt)
   have hw':=wrap_i64 (n:=((k+1:Nat):Int)) (by omega) (by omega)
   simp [go_sem,e0,e1,e6,e7,e8,hm,hlt,cFa_row xs[k],cNd_ones]
   refine .inl ⟨_,.inl ⟨f,first,caps,args',rfl,hs,.inl hw⟩,?_⟩
   cases hg:g xs[k] with
   |true =>
    simp [go_sem,e0,e1,e6,e7,e8,hm]
    rw [idxI_at hlt hg (fun j h hj=>hb j h hj)]
    exact .hf _ (HF.sc _)
   |false =>
    simp [go_sem,e0,e1,e6,e7,e8,hm,hlt]
    simp at hw'
    refine ⟨hw',fun j h hj=>?_⟩
    by_cases hjk:j=k
    ·subst hjk;exact hg
    ·exact hb j h (by omega)
theorem hasFa (full:Bool) (xs:List (ByteArray×Nd)) (fv:AV) (g:ByteArray×Nd→Bool) (hf:FnOkP Tryz.prog fv xs (fun x => .agg (cFa x)) g) (hh:HF fv) (hh2:HF (.lst full (xs.map cFa))) (hl:xs.length≤1000000000000):SoundP Tryz.prog 109 [.lst full (xs.map cFa),fv] (aB (xs.any g)):=by
 refine SoundP.of_sound (Sound.of_awp Tryz.call109 Tryz.func109 rfl (Nat.le_of_ble_eq_true (by kernel_rfl)) (by kernel_rfl) (pl:={}) ?_)
 simp [go_sem]
 refine CallStep.pure (idxFa full xs fv g hf hl) (.cons (.hf hh2) (.cons (.hf hh) .nil)) ?_
 simp [go_sem]
 rw [idxI_any]
 exact .hf _ (HF.sc _)
end Go.Proofs.YtcfopdccdeeleaaGreatDoor.YF


namespace Go.Proofs.YtcfopdccdeeleaaGreatDoor.Y9
open Go Go.Ev Go.Proofs Y1 Y2 Y3 Y4 P1 YM Y5 Y6 Y7 Y8 YS YF
abbrev cCk (c:Ck):List AV:=[lSo c.ts.sorts,lFl c.ts.fields,lPd c.ts.preds,lFa c.ts.facts,aI c.calls,.lst false (c.timed.map fun b=>[aB b])]
abbrev eCk (c:Ck):AV := .ip (cCk c)
theorem hf_eCk (c:Ck):HF (eCk c):=HF.ip fun x hx=>by
 simp only [cCk,List.mem_cons,List.not_mem_nil,or_false] at hx
 rcases hx with rfl | rfl | rfl | rfl | rfl | rfl
 ·exact hf_lSo _
 ·exact hf_lFl _
 ·exact hf_lPd _
 ·exact hf_lFa _
 ·exact HF.sc _
 ·exact HF.lst fun r hr c hc=>by
   obtain ⟨b,_,rfl⟩:=List.mem_map.1 hr
   simp at hc;subst hc;exact HF.sc _
structure okTS (s:TS):Prop where
 ns:s.sorts.length≤4
 nf:s.fields.length≤6
 np:s.preds.length≤8
 nfa:s.facts.length≤16
 sl:∀ x,x∈s.sorts→x.1.size≤4611686018427387904
 fl:∀ f,f∈s.fields→1≤f.sorts.length∧f.sorts.length≤3∧∀ x,x∈f.sorts→0≤x∧x<s.sorts.length
 pl:∀ p,p∈s.preds→p.params.length≤8∧∀ x,x∈p.params→0≤x.2∧x.2<s.sorts.length
structure okCk (c:Ck):Prop where
 ts:okTS c.ts
 calls:c.calls≤c.ts.preds.length
 timed:c.calls≤c.timed.length
theorem callee1U (p:Pd) (nm:ByteArray):SoundP Tryz.prog 162 [.agg (cPd p),.ip [aS nm]] (aB (decide (p.name=nm))):=by
 refine SoundP.of_sound (Sound.of_awp Tryz.call162 Tryz.func162 rfl (Nat.le_of_ble_eq_true (by kernel_rfl)) (by kernel_rfl) (pl:={}) ?_)
 by_cases h:p.name=nm
 ·simp [go_sem,h]
  exact .hf _ (HF.sc _)
 ·simp [go_sem,h,str_ne h]
  exact .hf _ (HF.sc _)
theorem calleeU (c:Ck) (hc:okCk c) (nm:ByteArray):SoundP Tryz.prog 126 [eCk c,aS nm] (aI (match calleeL c nm with | some i=>i | none => -1)):=by
 refine SoundP.of_sound (Sound.of_awp Tryz.call126 Tryz.func126 rfl (Nat.le_of_ble_eq_true (by kernel_rfl)) (by kernel_rfl) (pl:={}) ?_)
 simp [go_sem]
 refine DrawGo.intro (by kernel_rfl) ?_
 have hcl:=hc.calls
 have hnp:=hc.ts.np
 have htk:List.take c.calls (c.ts.preds.map cPd)=(c.ts.preds.take c.calls).map cPd:=by rw [List.map_take]
 simp [go_sem,show (c.calls:Int)≤c.ts.preds.length by omega]
 refine ⟨⟨_,_,⟨rfl,rfl⟩,fun r hr=>by obtain ⟨p,_,rfl⟩:=List.mem_map.1 hr;exact (cPd_row p).1⟩,?_⟩
 rw [htk]
 have hfn:HF (.fn (.func 162) [] [.ip [aS nm]]):=HF.fn (by simp) (fun x hx=>by simp at hx;subst hx;exact HF.ip fun y hy=>by simp at hy;subst hy;exact HF.sc _)
 refine CallStep.pure (idxPd false (c.ts.preds.take c.calls) _ (fun p=>decide (p.name=nm)) ⟨_,_,_,rfl,fun p hp=>⟨_,callee1U p nm,.cons (.hf (HF.agg (hf_cPd p))) (.cons (.hf (HF.ip fun y hy=>by simp at hy;subst hy;exact HF.sc _)) .nil)⟩⟩ (by simp;omega)) (.cons (.hf (hf_lPd _)) (.cons (.hf hfn) .nil)) ?_
 simp [go_sem]
 exact .hf _ (HF.sc _)
theorem calleeL_lt {c:Ck} (hc:okCk c) {nm:ByteArray} {p:Nat} (h:calleeL c nm=some p):p<c.calls∧p<c.ts.preds.length:=by
 unfold calleeL at h
 rw [List.findIdx?_eq_some_iff_getElem] at h
 obtain ⟨hp,_⟩:=h
 simp at hp
 omega
theorem timeOfU (c:Ck) (hc:okCk c) (n:Nd):SoundP Tryz.prog 84 [eCk c,eNd n] (aB (timeOfL c n.op n.name)):=by
 refine SoundP.of_sound (Sound.of_awp Tryz.call84 Tryz.func84 rfl (Nat.le_of_ble_eq_true (by kernel_rfl)) (by kernel_rfl) (pl:={}) ?_)
 unfold timeOfL timeOp
 by_cases h5:n.op=5
 ·simp [go_sem,h5];exact .hf _ (HF.sc _)
 by_cases h48:n.op=48
 ·simp [go_sem,h48];exact .hf _ (HF.sc _)
 by_cases h49:n.op=49
 ·simp [go_sem,h49];exact .hf _ (HF.sc _)
 by_cases h50:n.op=50
 ·simp [go_sem,h50];exact .hf _ (HF.sc _)
 by_cases h51:n.op=51
 ·simp [go_sem,h51];exact .hf _ (HF.sc _)
 by_cases h47:n.op=47
 ·simp [go_sem,h47]
  refine CallStep.pure (calleeU c hc n.name) (.cons (.hf (hf_eCk c)) (.cons (.hf (HF.sc _)) .nil)) ?_
  cases hq:calleeL c n.name with
  |none =>
   simp [go_sem];exact .hf _ (HF.sc _)
  |some p =>
   obtain ⟨h1,h2⟩:=calleeL_lt hc hq
   have h3:p<c.timed.length:=Nat.lt_of_lt_of_le h1 hc.timed
   simp [go_sem,h3]
   exact .hf _ (HF.sc _)
 ·simp [go_sem,h5,h48,h49,h50,h51,h47]
  exact .hf _ (HF.sc _)
theorem tempLs_any (c:Ck):∀ ks:List Nd,tempLs c ks=ks.any (tempL c)
 | []=>rfl
 |k :: ks=>by simp [tempLs,tempLs_any c ks]
noncomputable abbrev szN (n:Nd):Nat:=SizeOf.sizeOf n
theorem kid_lt {n k:Nd} (h:k∈n.kids):szN k<szN n:=by
 obtain ⟨op,nm,i,ks,p⟩:=n
 have:SizeOf.sizeOf k<SizeOf.sizeOf ks:=List.sizeOf_lt_of_mem h
 simp only [szN,Nd.mk.sizeOf_spec]
 omega
inductive Small:Nd→Prop where
 |mk (n:Nd) (h:n.kids.length≤1000) (hk:∀ k,k∈n.kids→Small k):Small n
theorem Small.len {n:Nd} (h:Small n):n.kids.length≤1000:=by cases h;assumption
theorem Small.kid {n k:Nd} (h:Small n) (hk:k∈n.kids):Small k:=by
 cases h with
 |mk _ _ h=>exact h k hk
theorem tempL_eq (c:Ck) (n:Nd):tempL c n=(timeOfL c n.op n.name||n.kids.any (tempL c)):=by
 obtain ⟨op,nm,i,ks,p⟩:=n
 simp [tempL,tempLs_any,Nd.op,Nd.name,Nd.kids]
theorem temporalU (c:Ck) (hc:okCk c):∀(m:Nat) (n:Nd),szN n≤m→Small n→SoundP Tryz.prog 83 [eCk c,eNd n] (aB (tempL c n))
 | 0,n,hm,_=>by obtain ⟨op,nm,i,ks,p⟩:=n;simp [szN] at hm
 |m+1,n,hm,hs=>by
  refine SoundP.of_sound (Sound.of_awp Tryz.call83 Tryz.func83 rfl (Nat.le_of_ble_eq_true (by kernel_rfl)) (by kernel_rfl) (pl:={}) ?_)
  rw [tempL_eq]
  simp [go_sem]
  refine CallStep.pure (timeOfU c hc n) (.cons (.hf (hf_eCk c)) (.cons (.hf (hf_eNd n)) .nil)) ?_
  cases ht:timeOfL c n.op n.name with
  |true =>
   simp [go_sem]
   exact .hf _ (HF.sc _)
  |false =>
   simp [go_sem]
   have hfn:HF (.fn (.func 83) [eCk c] []):=HF.fn (fun x hx=>by simp at hx;subst hx;exact hf_eCk c) (by simp)
   refine CallStep.pure (hasNd false n.kids _ (tempL c) ⟨_,_,_,rfl,fun k hk=>⟨_,temporalU c hc m k (by have:=kid_lt hk;omega) (hs.kid hk),.cons (.hf (hf_eCk c)) (.cons (.hf (hf_eNd k)) .nil)⟩⟩ hfn (hf_lNd _) (by have:=hs.len;omega)) (.cons (.hf (hf_lNd _)) (.cons (.hf hfn) .nil)) ?_
   simp [go_sem]
   exact .hf _ (HF.sc _)
end Go.Proofs.YtcfopdccdeeleaaGreatDoor.Y9


namespace Go.Proofs.YtcfopdccdeeleaaGreatDoor.Y10
open Go Go.Ev Go.Proofs Y1 Y2 Y3 Y4 P1 YM Y5 Y6 Y7 Y8 YS YF Y9
abbrev rB (b:Bool):List AV:=[aB b]
theorem rows_rB (l:List Bool):rowsWf 1 (l.map rB):=fun r hr=>by
 obtain ⟨n,_,rfl⟩:=List.mem_map.1 hr
 exact ⟨rfl,rfl⟩
theorem OwnF.rdB {lo:Nat} {mu:Mu} {av:AV} {xs:List Bool} (h:OwnF lo mu 1 av (xs.map rB)):Rd mu av (.lst false (xs.map rB)):=
 h.1.rd (rows_rB xs).ok fun r hr c hc=>by
  obtain ⟨n,_,rfl⟩:=List.mem_map.1 hr
  simp at hc;subst hc;exact HF.sc _
theorem ownF_le {lo sz:Nat} {mu mu':Mu} {av:AV} {xs:List (List AV)} (h:OwnF lo mu sz av xs) (hm:MuLe mu mu'):OwnF lo mu' sz av xs:=by
 obtain ⟨ho,hb,hl⟩:=h
 have hlen:mu.length≤mu'.length:=by
  rcases Nat.eq_zero_or_pos mu.length with h0 | h0
  ·omega
  ·have:=hm (mu.length-1) mu[mu.length-1] (List.getElem?_eq_getElem (by omega))
   have:=(List.getElem?_eq_some_iff.1 this).1
   omega
 refine ⟨?_,hb,Nat.le_trans hl hlen⟩
 rcases ho with rfl | ⟨b,rfl,hc⟩
 ·exact .inl rfl
 ·exact .inr ⟨b,rfl,hm _ _ hc⟩
theorem tmsL_len (ts:TS):∀ k,k≤ts.preds.length→(tmsL ts k).length=k
 | 0,_=>rfl
 |k+1,h=>by
  have hk:k<ts.preds.length:=by omega
  simp [tmsL,tmsL_len ts k (by omega),List.getElem?_eq_getElem hk]
theorem okCk_mk {ts:TS} (h:okTS ts) {k:Nat} (hk:k≤ts.preds.length):okCk (mkCk ts k):=⟨h,hk,Nat.le_of_eq (tmsL_len ts k hk).symm⟩
theorem newCheckerU (ts:TS) (h:okTS ts) (hs:∀ p,p∈ts.preds→Small p.body) (n:Nat) (hn:n≤ts.preds.length):SoundP Tryz.prog 41 [eTS ts,aI n] (eCk (mkCk ts n)):=by
 refine SoundP.of_sound (Sound.of_awp Tryz.call41 Tryz.func41 rfl (Nat.le_of_ble_eq_true (by kernel_rfl)) (by kernel_rfl) (pl:={ mt:=[9] }) ?_)
 have hnp:=h.np
 simp [go_sem]
 refine LoopGo.upK n (fun k st=>∃ av rest,st.tm 1=aI n∧st.tm 2 = .ip (cTS ts)∧st.tm 5 = .ptr 0 0∧st.mu=[.arr [lSo ts.sorts,lFl ts.fields,lPd ts.preds,lFa ts.facts,aI k,av]]++rest∧OwnF 1 st.mu 1 av ((tmsL ts k).map rB)) ?_ ?_
 ·refine ⟨.lst true [],[],by simp [go_sem],by simp [go_sem],by simp [go_sem],by simp [go_sem],?_⟩
  exact OwnF.nil (by simp [go_sem])
 ·rintro k st hk ⟨av,rest,e1,e2,e5,hm,ho⟩
  have hrd:Rd st.mu (.ptr 0 0) (eCk (mkCk ts k)):=by
   rw [hm]
   refine .ptr 0 0 _ _ rfl (by simp) (fun j x y hx hy=>?_)
   rw [←hm]
   match j with
   | 0=>simp at hx hy;subst hx;subst hy;exact .hf _ (hf_lSo _)
   | 1=>simp at hx hy;subst hx;subst hy;exact .hf _ (hf_lFl _)
   | 2=>simp at hx hy;subst hx;subst hy;exact .hf _ (hf_lPd _)
   | 3=>simp at hx hy;subst hx;subst hy;exact .hf _ (hf_lFa _)
   | 4=>simp at hx hy;subst hx;subst hy;exact .hf _ (HF.sc _)
   | 5=>simp at hx hy;subst hx;subst hy;exact OwnF.rdB ho
   |j+6=>simp at hx
  by_cases hlt:k<n
  ·have hkp:k<ts.preds.length:=by omega
   simp [go_sem,e1,e2,e5,hm,hlt]
   refine DrawGo.intro (by kernel_rfl) ?_
   have ho':OwnF 1 (st.mu++[.arr (cNd ts.preds[k].body)]) 1 av ((tmsL ts k).map rB):=ownF_le ho (MuLe.push _ _)
   have hrd':=Rd.le (MuLe.push st.mu (.arr (cNd ts.preds[k].body))) hrd
   have htm:=temporalU (mkCk ts k) (okCk_mk h (by omega)) _ ts.preds[k].body (Nat.le_refl _) (hs _ (List.getElem_mem hkp))
   have hts:tmsL ts (k+1)=tmsL ts k++[tempL (mkCk ts k) ts.preds[k].body]:=by
    simp only [tmsL,List.getElem?_eq_getElem hkp];rfl
   have hl:=tmsL_len ts k (by omega)
   rw [hm] at ho' hrd'
   simp [go_sem,e1,e2,e5,hm,hlt,hkp,cNd_ones]
   refine DrawGo.intro (by kernel_rfl) ?_
   simp [go_sem,e1,e2,e5,hm,hlt,hkp,cNd_take]
   refine CallStep.lend htm ⟨by simpa using hrd',.hf _ (hf_eNd _),trivial⟩ (FL.sc _) ?_
   simp [go_sem,e1,e2,e5,hm,hlt,hkp]
   refine AppendStep.ownF (lo:=1) (e:=4) (sz:=1) (bt:=1) (zv:=aB false) (xs:=(tmsL ts k).map rB) (ys:=[rB (tempL (mkCk ts k) ts.preds[k].body)]) (by simp [go_sem]) (by simp [go_sem]) (by simp [go_sem]) rfl rfl (by omega) (by omega) (by simpa using ho') (by simp [rowsOf]) (rows_rB _) (rows_rB [_]) (by simp;omega) ?_
   intro av' mu' ho2 hk2
   obtain ⟨rest',rfl⟩:=split1 (hk2 0 (by omega))
   have w1:IntKind.i64.wrap ((k:Int)+1)=(k:Int)+1:=wrap_i64 (by omega) (by omega)
   simp [go_sem,e1,e2,e5,hm,hlt,hkp,w1,OwnF.cells ho2,OwnF.one ho2]
   refine Keep.mk' ?_
   refine ⟨av',rest',by simp [go_sem,e1],by simp [go_sem,e2],by simp [go_sem,e5],by simp [go_sem],?_⟩
   have e3:(tmsL ts k).map rB++[rB (tempL (mkCk ts k) ts.preds[k].body)]=(tmsL ts (k+1)).map rB:=by rw [hts,List.map_append];rfl
   rw [←e3]
   exact OwnF.low (low:=[.arr [lSo ts.sorts,lFl ts.fields,lPd ts.preds,lFa ts.facts,aI k,av]]) (low':=[.arr [lSo ts.sorts,lFl ts.fields,lPd ts.preds,lFa ts.facts,aI (k+1),av']]) ho2 rfl
  ·obtain rfl:k=n:=by omega
   simp [go_sem,e1,e2,e5,hm]
   rw [hm] at hrd
   exact hrd
theorem ofU' (full:Bool) (l:List Int) (hl:l.length≤3) (hr:∀ x,x∈l→0≤x∧x<128):SoundP Tryz.prog 88 [.lst full (l.map rI)] (eKd (kOf l)):=by
 have:=ofU l hl hr
 refine ⟨this.1,fun imm w vs hi ra=>this.2 imm w vs hi ?_⟩
 obtain ⟨v,rfl,rv⟩:=ra.one_inv
 exact ⟨rfl,fun k x hk=>by
  cases k with
  |zero=>simp at hk;subst hk;simpa using rv.ro
  |succ k=>simp at hk⟩
theorem bindU (ns:Nat) (hns:ns≤4) (env:List (ByteArray×Int)) (he:env.length≤1000000) (hr:∀ p,p∈env→0≤p.2∧p.2<ns):SoundP Tryz.prog 43 [lPm env] (aSc (bindL env)):=by
 refine SoundP.of_sound (Sound.of_awp Tryz.call43 Tryz.func43 rfl (Nat.le_of_ble_eq_true (by kernel_rfl)) (by kernel_rfl) (pl:={}) ?_)
 simp [go_sem]
 refine LoopGo.up env.length (fun k st=>st.tm 3=aSc (bindL (env.take k))∧st.tm 6=lPm env∧st.tm 7=aI env.length∧st.tm 8=aI k) ?_ ?_
 ·simp [go_sem]
  rfl
 ·rintro k st hk ⟨e3,e6,e7,e8⟩
  by_cases he':k=env.length
  ·subst he'
   simp [go_sem,e3,e6,e7,e8]
   exact .hf _ (hf_aSc _)
  ·have hlt:k<env.length:=by omega
   have hb:bindL (env.take (k+1))=(env[k].1,kOf [env[k].2]) :: bindL (env.take k):=by
    unfold bindL
    rw [List.take_add_one,List.getElem?_eq_getElem hlt,List.foldl_append];rfl
   have hof:=ofU' true [env[k].2] (by simp) (fun x hx=>by simp at hx;subst hx;have:=hr _ (List.getElem_mem hlt);omega)
   have w1:IntKind.i64.wrap ((k:Int)+1)=(k:Int)+1:=wrap_i64 (by omega) (by omega)
   simp [go_sem,e3,e6,e7,e8,hlt]
   refine DrawGo.intro (by kernel_rfl) ?_
   simp [go_sem,e3,e6,e7,e8,hlt]
   refine CallStep.pure hof (.cons (.hf (HF.lst fun r hr c hc=>by simp at hr;subst hr;simp at hc;subst hc;exact HF.sc _)) .nil) ?_
   simp [go_sem,e3,e6,e7,e8,hlt,w1]
   rw [hb];rfl
theorem toL_eq (a b:ByteArray):(a.toList == b.toList)=decide (a=b):=by
 by_cases h:a=b
 ·subst h;simp
 ·rw [str_ne h,decide_eq_false h]
theorem appK {mu:Mu} {s:AV} {xs:List Kd} {k:Kd} {K:AV→Mu→Prop} (ho:OwnF 0 mu 2 s (xs.map cKd)) (hl:xs.length≤100000) (kk:∀ av mu',OwnF 0 mu' 2 av ((xs++[k]).map cKd)→K av mu') :
  AppendStep Tryz.prog mu #[149,149] s (.lst true [cKd k]) K:=by
 refine AppendStep.ownF (lo:=0) (e:=82) (sz:=2) (bt:=16) (zv := .agg [aI 0,.sc (.map none)]) (xs:=xs.map cKd) (ys:=[cKd k]) (by simp [go_sem]) (by simp [go_sem]) (by simp [go_sem]) rfl rfl (by omega) (by omega) ho (by simp [rowsOf]) (rows_cKd _) (rows_cKd [k]) (by simp;omega) ?_
 intro av mu' h _
 exact kk av mu' (by rw [List.map_append];exact h)
theorem appKB {mu:Mu} {s:AV} {xs:List Kd} {k:Kd} {K:AV→Mu→Prop} {b:Nat} {c:Cell} (ho:Own mu 2 s (xs.map cKd)) (hb:mu[b]?=some c) (hs:∀ off len,s ≠ .sl b 2 off len) (hl:xs.length≤100000)
  (kk:∀ av mu',Own mu' 2 av ((xs++[k]).map cKd)→mu'[b]?=some c→(∀ off len,av ≠ .sl b 2 off len)→K av mu') :
  AppendStep Tryz.prog mu #[149,149] s (.lst true [cKd k]) K:=by
 have hbl:b<mu.length:=(List.getElem?_eq_some_iff.1 hb).1
 have hfl:=flatten_len (rows_cKd xs).ok
 refine .inl ⟨_,_,82,2,16,[cKd k],rfl,by simp [go_sem],by simp [go_sem],⟨.agg [aI 0,.sc (.map none)],by simp [go_sem],rfl,rfl⟩,by omega,by omega,by simp [rowsOf],rows_cKd [k],?_⟩
 rcases ho with rfl | ⟨b0,rfl,hc⟩
 ·refine .inl ⟨xs.map cKd,rfl,rows_cKd xs,by simp;omega,fun h=>by simp at h,fun _=>?_⟩
  refine kk _ _ (.inr ⟨mu.length,by simp,by simp⟩) (by rw [List.getElem?_append_left hbl];exact hb) (fun off len e=>?_)
  injection e;omega
 ·refine .inr ⟨b0,xs.length,_,by simp,hc,by simp at hfl ⊢;omega,by simp;omega,?_⟩
  have hne:b0≠b:=fun e=>hs 0 _ (by rw [e])
  refine kk _ _ (.inr ⟨mu.length,by simp,?_⟩) (by rw [List.getElem?_append_left (by simpa using hbl),List.getElem?_set_ne hne];exact hb) (fun off len e=>?_)
  ·rw [List.getElem?_append_right (by simp)]
   have:(List.map cKd xs).flatten.take (xs.length*2)=(List.map cKd xs).flatten:=List.take_of_length_le (by simp at hfl ⊢;omega)
   simp only [List.length_set,Nat.sub_self,List.getElem?_cons_zero,this,List.map_append,List.flatten_append]
   rfl
  ·injection e;omega
theorem own_push {mu:Mu} {sz:Nat} {s:AV} {xs:List (List AV)} (h:Own mu sz s xs) (c:Cell):Own (mu++[c]) sz s xs:=by
 rcases h with rfl | ⟨b,rfl,hc⟩
 ·exact .inl rfl
 ·exact .inr ⟨b,rfl,by rw [List.getElem?_append_left (List.getElem?_eq_some_iff.1 hc).1];exact hc⟩
theorem own_not {mu:Mu} {sz:Nat} {s:AV} {xs:List (List AV)} (h:Own mu sz s xs):∀ off len,s ≠ .sl mu.length sz off len:=by
 intro off len e
 rcases h with rfl | ⟨b,rfl,hc⟩
 ·cases e
 ·have:=(List.getElem?_eq_some_iff.1 hc).1
  injection e;omega
theorem meanF_take {fs:List Fld} {k:Nat} (hk:k<fs.length) (nm:ByteArray):meanF (fs.take (k+1)) nm=meanF (fs.take k) nm++(if fs[k].name=nm then [kOf fs[k].sorts] else []):=by
 unfold meanF
 rw [List.take_add_one,List.getElem?_eq_getElem hk,List.filterMap_append]
 congr 1
 simp only [Option.toList_some,List.filterMap_cons,List.filterMap_nil]
 split<;>rename_i h<;>split at h<;>simp_all
theorem meanF_len (fs:List Fld) (nm:ByteArray):(meanF fs nm).length≤fs.length:=List.length_filterMap_le ..
theorem meanS_take:∀{so:List (ByteArray×Bool)} {i k:Nat} (hk:k<so.length) (nm:ByteArray),meanS i (so.take (k+1)) nm=meanS i (so.take k) nm++meanS1 (i+k) so[k] nm
 | [],_,_,h,_=>by simp at h
 |s :: so,i,0,_,nm=>by simp [meanS]
 |s :: so,i,k+1,h,nm=>by
  have:=meanS_take (so:=so) (i:=i+1) (k:=k) (by simpa using h) nm
  simp only [List.take_succ_cons,meanS,List.getElem_cons_succ] at this ⊢
  rw [this,List.append_assoc,show i+1+k=i+(k+1) by omega]
theorem meanS1_len (i:Nat) (s:ByteArray×Bool) (nm:ByteArray):(meanS1 i s nm).length≤3:=by
 unfold meanS1
 simp only [List.length_append]
 have h:∀(p:Prop) [Decidable p] (k:Kd),(if p then [k] else []).length≤1:=fun p _ k=>by split<;>simp
 have h1:=h (s.1=nm) (kOf [(i:Int)])
 have h2:=h (s.2=true∧s.1++sFirst=nm) (kOf [(i:Int)])
 have h3:=h (s.2=true∧s.1++sNext=nm) (kOf [(i:Int),(i:Int)])
 omega
theorem meanS_len:∀(so:List (ByteArray×Bool)) (i:Nat) (nm:ByteArray),(meanS i so nm).length≤3*so.length
 | [],_,_=>by simp [meanS]
 |s :: so,i,nm=>by
  have:=meanS_len so (i+1) nm
  have:=meanS1_len i s nm
  simp only [meanS,List.length_append,List.length_cons];omega
theorem meansU (ts:TS) (h:okTS ts) (nm:ByteArray):SoundP Tryz.prog 128 [eTS ts,aS nm] (.lst false ((means ts nm).map cKd)):=by
  refine SoundP.of_sound (Sound.of_awp Tryz.call128 Tryz.func128 rfl (Nat.le_of_ble_eq_true (by kernel_rfl)) (by kernel_rfl) (pl:={}) ?_)
  have hnf:=h.nf
  have hns:=h.ns
  simp [go_sem]
  refine LoopGo.upK ts.fields.length (fun k st=>st.tm 1=aS nm∧st.tm 2 = .ip (cTS ts)∧st.tm 11=lFl ts.fields∧st.tm 12=aI ts.fields.length∧st.tm 13=aI k∧OwnF 0 st.mu 2 (st.tm 5) ((meanF (ts.fields.take k) nm).map cKd)) ?_ ?_
  · exact ⟨by simp [go_sem],by simp [go_sem],by simp [go_sem],by simp [go_sem],by simp [go_sem],by simp [go_sem];exact OwnF.nil (Nat.zero_le _)⟩
  · rintro k st hk ⟨e1,e2,e11,e12,e13,ho⟩
    by_cases he:k=ts.fields.length
    · subst he
      rw [List.take_length] at ho
      simp [go_sem,e1,e2,e11,e12,e13]
      have hl1:=meanF_len ts.fields nm
      refine LoopGo.upK ts.sorts.length (fun k st=>st.tm 1=aS nm∧st.tm 29=lSo ts.sorts∧st.tm 30=aI ts.sorts.length∧st.tm 31=aI k∧Own st.mu 2 (st.tm 5) ((meanF ts.fields nm++meanS 0 (ts.sorts.take k) nm).map cKd)) ?_ ?_
      · exact ⟨by simp [go_sem,e1],by simp [go_sem],by simp [go_sem],by simp [go_sem],by simp [go_sem,meanS];simpa using ho.1⟩
      · rintro k st hk ⟨e1,e29,e30,e31,ho⟩
        by_cases he:k=ts.sorts.length
        · subst he
          rw [List.take_length] at ho
          simp [go_sem,e1,e29,e30,e31]
          exact ho.rd (rows_cKd _).ok (fun r hr c hc=>by
            obtain ⟨x,_,rfl⟩:=List.mem_map.1 hr
            simp at hc
            rcases hc with rfl | rfl
            · exact HF.sc _
            · exact hf_mKd _)
        · have hlt:k<ts.sorts.length:=by omega
          have w1:IntKind.i64.wrap ((k:Int)+1)=(k:Int)+1:=wrap_i64 (by omega) (by omega)
          have hl2:=meanS_len (ts.sorts.take k) 0 nm
          have hl3:(ts.sorts.take k).length≤4:=by simp;omega
          have hof1:=ofU' true [(k:Int)] (by simp) (fun x hx=>by simp at hx;subst hx;omega)
          have hof2:=ofU' true [(k:Int),(k:Int)] (by simp) (fun x hx=>by simp at hx;subst hx;omega)
          have hr1:HF (.lst true [rI k]):=HF.lst fun r hr c hc=>by simp at hr;subst hr;simp at hc;subst hc;exact HF.sc _
          have hr2:HF (.lst true [rI k,rI k]):=HF.lst fun r hr c hc=>by simp at hr;subst hr;simp at hc;subst hc;exact HF.sc _
          have htk:=meanS_take (i:=0) hlt nm
          rw [Nat.zero_add] at htk
          have hsz:=h.sl _ (List.getElem_mem hlt)
          generalize hso:ts.sorts[k]=so at *
          obtain ⟨sn,sb⟩:=so
          have hll:(meanF ts.fields nm++meanS 0 (ts.sorts.take k) nm).length≤18:=by simp at hl2 hl3 ⊢;omega
          have hlx:∀ x:Kd,((meanF ts.fields nm++meanS 0 (ts.sorts.take k) nm)++[x]).length≤19:=fun x=>by simp at hll ⊢;omega
          have hly:∀ x y:Kd,(((meanF ts.fields nm++meanS 0 (ts.sorts.take k) nm)++[x])++[y]).length≤20:=fun x y=>by simp at hll ⊢;omega
          generalize hX:meanF ts.fields nm++meanS 0 (ts.sorts.take k) nm=X at *
          have hfin:∀(s:AV) (mu:Mu) (Y:List Kd),Y=X++meanS1 k (sn,sb) nm→Own mu 2 s (Y.map cKd)→Own mu 2 s ((meanF ts.fields nm++meanS 0 (ts.sorts.take (k+1)) nm).map cKd):=by
            intro s mu Y hY h
            rw [htk,←List.append_assoc,hX,←hY];exact h
          have hsf:∀ b:ByteArray,sn++sFirst=b→(sn++sFirst).toList == b.toList:=fun b h=>by rw [h];simp
          have hmu:=fun c=>own_push ho c
          have hnot:=own_not ho
          have hfs:(sn++sFirst=nm)=(sn++(⟨#[95,102,105,114,115,116]⟩:ByteArray)=nm):=rfl
          have hxs:(sn++sNext=nm)=(sn++(⟨#[95,110,101,120,116]⟩:ByteArray)=nm):=rfl
          simp only [meanS1,hfs,hxs] at hfin
          have hs1:sn.size≤9223372036854775801:=by simp at hsz;omega
          have hs2:sn.size≤9223372036854775802:=by simp at hsz;omega
          simp only [List.map_append] at hfin
          obtain ⟨d1,hd1⟩:∃ d,decide (sn=nm)=d:=⟨_,rfl⟩
          obtain ⟨d2,hd2⟩:∃ d,decide (sn++(⟨#[95,102,105,114,115,116]⟩:ByteArray)=nm)=d:=⟨_,rfl⟩
          obtain ⟨d3,hd3⟩:∃ d,decide (sn++(⟨#[95,110,101,120,116]⟩:ByteArray)=nm)=d:=⟨_,rfl⟩
          have p1:(sn=nm)=(d1=true):=by rw [←hd1];simp
          have p2:(sn++(⟨#[95,102,105,114,115,116]⟩:ByteArray)=nm)=(d2=true):=by rw [←hd2];simp
          have p3:(sn++(⟨#[95,110,101,120,116]⟩:ByteArray)=nm)=(d3=true):=by rw [←hd3];simp
          simp only [p1,p2,p3] at hfin
          cases d1<;>cases d2<;>cases d3<;>cases sb
          all_goals simp only [if_true,if_false,List.append_nil,List.nil_append,and_false,and_true,false_and,true_and,reduceCtorEq] at hfin
          all_goals simp [go_sem,toL_eq,e1,e29,e30,e31,hlt,hso,hd1,hd2,hd3,w1,hs1,hs2]
          all_goals repeat' (first
            | (refine CallStep.pure hof1 (.cons (.hf hr1) .nil) ?_
               simp [go_sem]
               refine appKB (b:=st.mu.length) (by first | exact hmu _ | assumption) (by first | assumption | exact List.getElem?_concat_length) (by assumption) (by first | (simp only [List.length_append,List.length_singleton];omega) | omega) ?_
               rintro av mu' ho2 hb2 hn2
               simp [go_sem,toL_eq,e1,e29,e30,e31,hlt,hso,hd1,hd2,hd3,w1,hs1,hs2,hb2])
            | (refine CallStep.pure hof2 (.cons (.hf hr2) .nil) ?_
               simp [go_sem]
               refine appKB (b:=st.mu.length) (by first | exact hmu _ | assumption) (by first | assumption | exact List.getElem?_concat_length) (by assumption) (by first | (simp only [List.length_append,List.length_singleton];omega) | omega) ?_
               rintro av mu' ho2 hb2 hn2
               simp [go_sem,toL_eq,e1,e29,e30,e31,hlt,hso,hd1,hd2,hd3,w1,hs1,hs2,hb2]))
          all_goals
            refine Keep.mk' ?_
            refine ⟨by simp [go_sem,e1],by simp [go_sem,e29],by simp [go_sem,e30],by simp [go_sem],?_⟩
            simp only [put_tm,put_mu]
            simp
            refine hfin _ _ _ ?_ (by first | assumption | exact hmu _)
            simp
    · have hlt:k<ts.fields.length:=by omega
      have hfl:=h.fl _ (List.getElem_mem hlt)
      have w1:IntKind.i64.wrap ((k:Int)+1)=(k:Int)+1:=wrap_i64 (by omega) (by omega)
      have hof:=ofU' false ts.fields[k].sorts hfl.2.1 (fun x hx=>by have:=hfl.2.2 x hx;omega)
      have htk:=meanF_take hlt nm
      have hl1:=meanF_len (ts.fields.take k) nm
      by_cases hn:ts.fields[k].name=nm
      · simp [go_sem,e1,e2,e11,e12,e13,hlt,hn]
        refine CallStep.pure hof (.cons (.hf (hf_lI _)) .nil) ?_
        simp [go_sem,e1,e2,e11,e12,e13,hlt,hn]
        refine appK (xs:=meanF (ts.fields.take k) nm) (ownF_le ho (MuLe.push _ _)) (by simp at hl1 ⊢;omega) ?_
        intro av mu' ho2
        simp [go_sem,e1,e2,e11,e12,e13,hlt,w1]
        refine Keep.mk' ?_
        refine ⟨by simp [go_sem,e1],by simp [go_sem,e2],by simp [go_sem,e11],by simp [go_sem,e12],by simp [go_sem],?_⟩
        rw [htk,if_pos hn]
        simpa [go_sem] using ho2
      · simp [go_sem,e1,e2,e11,e12,e13,hlt,hn,str_ne hn,w1]
        refine Keep.mk' ?_
        refine ⟨by simp [go_sem,e1],by simp [go_sem,e2],by simp [go_sem,e11],by simp [go_sem,e12],by simp [go_sem],?_⟩
        rw [htk,if_neg hn,List.append_nil]
        simpa [go_sem] using ownF_le ho (MuLe.push _ _)
end Go.Proofs.YtcfopdccdeeleaaGreatDoor.Y10


namespace Go.Proofs.YtcfopdccdeeleaaGreatDoor.Y11
open Go Go.Ev Go.Proofs Y1 Y2 Y3 Y4 P1 YM Y5 Y6 Y7 Y8 YS YF Y9 Y10
def cKo:Option Kd→List AV
 |some k=>cKd k
 |none=>[aI 0,.sc (.map none)]
@[go_sem] theorem cKo_some (k:Kd):cKo (some k)=cKd k:=rfl
@[go_sem] theorem cKo_none:cKo none=[aI 0,.sc (.map none)]:=rfl
theorem hf_cKo (k:Option Kd):∀ c,c∈cKo k→HF c:=by
 intro c hc
 cases k with
 |none=>simp [cKo] at hc;rcases hc with rfl | rfl<;>exact HF.sc _
 |some k=>simp [cKo] at hc;rcases hc with rfl | rfl;exact HF.sc _;exact hf_mKd _
theorem hf_eKo (k:Option Kd):HF (.agg (cKo k)):=HF.agg (hf_cKo k)
theorem cKo_row (k:Option Kd):(cKo k).length=2∧(cKo k).all AV.one=true:=by cases k<;>exact ⟨rfl,rfl⟩
def endK:Res→AEnd
 | .ok k => .ret (.agg (cKo k))
 | .error e => .pan (stopV e.1 e.2)
@[go_sem] theorem endK_ok (k:Option Kd):endK (.ok k) = .ret (.agg (cKo k)):=rfl
@[go_sem] theorem endK_error (e:Dg):endK (.error e) = .pan (stopV e.1 e.2):=rfl
theorem nameU (c:Ck) (hc:okCk c) (s:Scp) (n:Nd):SoundX Tryz.prog 85 [eCk c,aSc s,eNd n] (endK (nameK c s n.name n.pos)):=by
 refine SoundG.of_sound ?_
 refine Sound.of_awp Tryz.call85 Tryz.func85 rfl (Nat.le_of_ble_eq_true (by kernel_rfl)) (by kernel_rfl) (pl:={}) ?_
 simp [go_sem]
 refine CallStep.pure (findU s n.name) (.cons (.hf (hf_aSc s)) (.cons (.hf (HF.sc _)) .nil)) ?_
 unfold nameK
 cases hf:findS n.name s with
 |cons v r =>
  simp [go_sem,aSc]
  exact .hf _ (hf_eKd v.2)
 |nil =>
  simp [go_sem,aSc]
  refine DrawGo.intro (by kernel_rfl) ?_
  simp [go_sem]
  refine CallStep.pure (meansU c.ts hc.ts n.name) (.cons (.hf (hf_eTS c.ts)) (.cons (.hf (HF.sc _)) .nil)) ?_
  have hn0:=needU
  cases hm:means c.ts n.name with
  |nil =>
   simp [go_sem]
   refine CallStep.pans (needU false 40 n) (.cons (.hf (HF.sc _)) (.cons (.hf (HF.sc _)) (.cons (.hf (hf_eNd n)) .nil))) ?_
   simp [go_sem]
   exact .hf _ (hf_stopV _ _)
  |cons k ks =>
   simp [go_sem]
   refine CallStep.pure (needU true 40 n).toP (.cons (.hf (HF.sc _)) (.cons (.hf (HF.sc _)) (.cons (.hf (hf_eNd n)) .nil))) ?_
   cases ks with
   |nil =>
    simp [go_sem]
    refine CallStep.pure (needU true 44 n).toP (.cons (.hf (HF.sc _)) (.cons (.hf (HF.sc _)) (.cons (.hf (hf_eNd n)) .nil))) ?_
    simp [go_sem]
    exact .hf _ (hf_eKd k)
   |cons k2 ks =>
    simp [go_sem]
    refine CallStep.pans (needU false 44 n) (.cons (.hf (HF.sc _)) (.cons (.hf (HF.sc _)) (.cons (.hf (hf_eNd n)) .nil))) ?_
    simp [go_sem]
    exact .hf _ (hf_stopV _ _)
theorem diag_succ (k ar:Nat) (har:1≤ar) (h3:ar≤3):kSum (kDiag k ar) (kOf (List.replicate ar (k:Int)))=kDiag (k+1) ar:=by
 have hnd:∀ k,((List.range k).map fun (i:Nat)=>pad (List.replicate ar (i:Int))).Nodup:=by
  intro k
  refine List.pairwise_map.2 ((List.pairwise_iff_getElem.2 fun i j hi hj hij=>?_))
  simp only [List.getElem_range]
  obtain ⟨a,rfl⟩:∃ a,ar=a+1:=⟨ar-1,by omega⟩
  intro e
  simp [pad,List.replicate_succ] at e
  omega
 have hu:∀ l:List Tp,l.Nodup→uni [] l=l:=by
  intro l hl
  have:∀(b a:List Tp),(a++b).Nodup→uni a b=a++b:=by
   intro b
   induction b with
   |nil=>intro a _;simp [uni]
   |cons x b ih =>
    intro a h
    have hx:x ∉ a:=fun hm=>(List.nodup_append.1 h).2.2 x hm x (by simp) rfl
    show uni (ins a x) b=_
    rw [show ins a x=a++[x] by unfold ins;rw [if_neg hx],ih (a++[x]) (by simpa using h)]
    simp
  simpa using this l [] (by simpa using hl)
 unfold kSum kDiag kOf
 simp only
 rw [hu _ (hnd k)]
 have h1:=hnd (k+1)
 rw [List.range_succ,List.map_append,List.map_singleton] at h1 ⊢
 have hx:pad (List.replicate ar (k:Int)) ∉ (List.range k).map fun (i:Nat)=>pad (List.replicate ar (i:Int)):=fun hm=>(List.nodup_append.1 h1).2.2 _ hm _ (by simp) rfl
 congr 1
 show ins _ _=_
 unfold ins
 rw [if_neg hx]
theorem diagU (c:Ck) (hc:okCk c) (ar:Nat) (h1:1≤ar) (h3:ar≤3):SoundP Tryz.prog 131 [eCk c,aI ar] (eKd (kDiag c.ts.sorts.length ar)):=by
 refine SoundP.of_sound (Sound.of_awp Tryz.call131 Tryz.func131 rfl (Nat.le_of_ble_eq_true (by kernel_rfl)) (by kernel_rfl) (pl:={}) ?_)
 have hns:=hc.ts.ns
 simp [go_sem]
 refine CallStep.pure (emptyU ar) (.cons (.hf (HF.sc _)) .nil) ?_
 simp [go_sem]
 refine LoopGo.up c.ts.sorts.length (fun k st=>st.tm 1=aI ar∧st.tm 4 = .ptr 0 0∧st.tm 5 = .ptr 1 0∧st.tm 13=lSo c.ts.sorts∧st.tm 14=aI c.ts.sorts.length∧st.tm 15=aI k∧st.mu=[.arr [aI 0,.sc (.map none)],.arr (cKd (kDiag k ar))]) ?_ ?_
 ·simp [go_sem,kDiag]
 ·rintro k st hk ⟨e1,e4,e5,e13,e14,e15,hm⟩
  by_cases he:k=c.ts.sorts.length
  ·subst he
   simp [go_sem,e1,e4,e5,e13,e14,e15,hm]
   exact .hf _ (hf_eKd _)
  ·have hlt:k<c.ts.sorts.length:=by omega
   have w1:IntKind.i64.wrap ((k:Int)+1)=(k:Int)+1:=wrap_i64 (by omega) (by omega)
   have hr:=repeatI k ar (by omega)
   have hof:=ofU' false (List.replicate ar (k:Int)) (by simpa using h3) (fun x hx=>by rw [List.eq_of_mem_replicate hx];omega)
   have hsu:=sumU true (kDiag k ar) (kOf (List.replicate ar (k:Int))) (fun t ht=>by
    have ht:t∈(List.range k).map fun (i:Nat)=>pad (List.replicate ar (i:Int)):=ht
    obtain ⟨i,_,rfl⟩:=List.mem_map.1 ht;rfl) (fun t ht=>by
    have ht:t∈[pad (List.replicate ar (k:Int))]:=ht
    simp at ht;subst ht;rfl)
   rw [diag_succ k ar h1 h3] at hsu
   simp [go_sem,e1,e4,e5,e13,e14,e15,hm,hlt]
   refine DrawGo.intro (by kernel_rfl) ?_
   simp [go_sem,e1,e4,e5,e13,e14,e15,hm,hlt]
   refine CallStep.pure hr (.cons (WK.lst fun r hr c hc=>by simp at hr;subst hr;simp at hc;subst hc;exact HF.sc _) (.cons (.hf (HF.sc _)) .nil)) ?_
   simp [go_sem]
   refine CallStep.pure hof (.cons (.hf (hf_lI _)) .nil) ?_
   simp [go_sem]
   refine CallStep.pure hsu (.cons (.hf (hf_eKd _)) (.cons (.hf (hf_lKd _ [_])) .nil)) ?_
   simp [go_sem,e1,e4,e5,e13,e14,e15,hm,hlt,w1]
end Go.Proofs.YtcfopdccdeeleaaGreatDoor.Y11


namespace Go.Proofs.YtcfopdccdeeleaaGreatDoor.Y12
open Go Go.Ev Go.Proofs Y1 Y2 Y3 Y4 P1 YM Y5 Y6 Y7 Y8 YS YF Y9 Y10 Y11
def trF (t:Tp):Tp:=[t.getD 1 0,t.getD 0 0,0]
theorem mem_kTr {a:List Tp} {t:Tp}:t∈uni [] (a.map fun t=>[t.getD 1 0,t.getD 0 0,0])↔∃ x,x∈a∧trF x=t:=by
 rw [mem_uni];simp [trF]
theorem ok2_kDiag (ns:Nat) (h:ns≤4):ok2 (kDiag ns 2):=by
 have hnd:((List.range ns).map fun (i:Nat)=>pad (List.replicate 2 (i:Int))).Nodup:=by
  refine List.pairwise_map.2 (List.pairwise_iff_getElem.2 fun i j hi hj hij=>?_)
  simp only [List.getElem_range]
  intro e
  simp [pad,List.replicate_succ] at e
  omega
 refine ⟨rfl,hnd,fun t ht=>?_⟩
 have ht:t∈(List.range ns).map fun (i:Nat)=>pad (List.replicate 2 (i:Int)):=ht
 obtain ⟨i,hi,rfl⟩:=List.mem_map.1 ht
 rw [List.mem_range] at hi
 exact ⟨i,i,rfl,by omega,by omega,by omega,by omega⟩
theorem ok2_clo {a:Kd} (h:ok2 a):ok2 (kClo a):=by
 have:∀(f n:Nat) (a:Kd),ok2 a→ok2 (cloN f n a):=by
  intro f
  induction f with
  |zero=>intro n a h;exact h
  |succ f ih =>
   intro n a h
   unfold cloN
   split
   ·exact ih _ _ (h.sum h.join)
   ·exact h
 exact this 70 0 a h
theorem binaryU (c:Ck) (hc:okCk c) (op:Int) (a:Kd) (ha:ok2 a) (hop:op=11∨op=12∨op=13):SoundP Tryz.prog 135 [eCk c,aI op,eKd a] (eKd (binK c.ts.sorts.length op a)):=by
 refine SoundP.of_sound (Sound.of_awp Tryz.call135 Tryz.func135 rfl (Nat.le_of_ble_eq_true (by kernel_rfl)) (by kernel_rfl) (pl:={}) ?_)
 have hns:=hc.ts.ns
 unfold binK
 rcases hop with rfl | rfl | rfl
 ·simp [go_sem]
  refine CallStep.eff0 (emptyM _ _) ?_ (by rintro r m ⟨e,_⟩;cases e)
  rintro r m ⟨e,c,rfl⟩
  cases e
  simp [go_sem]
  refine LoopGo.seen a.ts.length (fun seen st=>st.tm 5 = .ip (cKd a)∧st.tm 6 = .ptr 0 0∧st.tm 7 = .ptr 3 0∧st.tm 25 = .ptr 4 0 ∧
   ColS 2 (.arr [aI 0,.sc (.map none)]) c (.it (eT a.ts) seen) (fun t=>∃ x,(∃ i,i∈seen∧a.ts[i]?=some x)∧trF x=t) st.mu) ?_ ?_
  ·exact ⟨by simp [go_sem],by simp [go_sem],by simp [go_sem],by simp [go_sem],[],rfl,rfl,rfl,rfl,rfl,by simp,by simp,by simp⟩
  ·rintro seen st hnd hlt ⟨e5,e6,e7,e25,l,k0,k1,k2,k3,k4,h1,h2,h3⟩
   simp [go_sem,e5,e6,e7,e25]
   refine ⟨4,eT a.ts,seen,rfl,k4,fun i e hi hns=>?_,fun hall=>?_⟩
   ·obtain ⟨x,hx,rfl⟩:=eT_get hi
    have hxo:okT x:=ha.okK.len x (List.mem_of_getElem? hx)
    have hil:i<a.ts.length:=(List.getElem?_eq_some_iff.1 hx).1
    have hx3:x.length=3:=hxo
    have hlen:4<st.mu.length:=(List.getElem?_eq_some_iff.1 k4).1
    have hget:∀(c:Cell) (l:List Cell) (j:Nat),j<4→((st.mu.set 4 c)++l)[j]?=st.mu[j]?:=fun c l j hj=>by
     rw [List.getElem?_append_left (by simp;omega),List.getElem?_set_ne (by omega)]
    have q2:=fun c l=>(hget c l 2 (by omega)).trans k2
    have q3:=fun c l=>(hget c l 3 (by omega)).trans k3
    obtain ⟨x0,x1,x2,rfl⟩:∃ x0 x1 x2,x=[x0,x1,x2]:=by
     match x,hx3 with
     | [x0,x1,x2],_=>exact ⟨_,_,_,rfl⟩
    simp [go_sem,e5,e6,e7,e25,k4,hi,hlen,hns,q3]
    refine OptK.intro _ (updT (t:=[x1,x0,0]) (q2 _ _) rfl h2) ?_
    simp [go_sem]
    refine ⟨i,hil,hns,by simp [go_sem,e5],by simp [go_sem,e6],by simp [go_sem,e7],by simp [go_sem,e25],ins l [x1,x0,0],?_,?_,?_,?_,?_,nodup_ins h1,fun t ht=>?_,fun t=>?_⟩
    ·simp only [put_mu]
     rw [List.getElem?_set_ne (by omega),hget _ _ 0 (by omega),k0]
    ·simp only [put_mu]
     rw [List.getElem?_set_ne (by omega),hget _ _ 1 (by omega),k1]
    ·simp only [put_mu]
     rw [List.getElem?_set_self (by simp;omega)]
    ·simp only [put_mu]
     rw [List.getElem?_set_ne (by omega),hget _ _ 3 (by omega),k3]
    ·simp only [put_mu]
     rw [List.getElem?_set_ne (by omega),List.getElem?_append_left (by simpa using hlen),List.getElem?_set_self hlen]
    ·rcases mem_ins.1 ht with h | rfl
     ·exact h2 t h
     ·rfl
    ·simp only [mem_ins,h3,seen_mem hx]
     constructor
     ·rintro (⟨y,h,e⟩ | rfl)
      ·exact ⟨y,.inl h,e⟩
      ·exact ⟨[x0,x1,x2],.inr rfl,rfl⟩
     ·rintro ⟨y,h | rfl,e⟩
      ·exact .inl ⟨y,h,e⟩
      ·exact .inr e.symm
   ·obtain ⟨rest,hm⟩:=four k0 k1 k2 k3
    simp [go_sem,e5,e6,e7,e25,hm]
    refine Rd.aggs ⟨.hf _ (HF.sc _),Rd.setT (k:=(kTr a).ts) rfl h1 (nodup_uni (by simp)) (fun t=>?_),trivial⟩
    refine (h3 t).trans (Iff.trans ?_ mem_kTr.symm)
    constructor
    ·rintro ⟨y,h,e⟩;exact ⟨y,(seen_all (by simpa using hall)).1 h,e⟩
    ·rintro ⟨y,h,e⟩;exact ⟨y,(seen_all (by simpa using hall)).2 h,e⟩
 ·simp [go_sem]
  refine CallStep.pure (closureU a ha) (.cons (.hf (hf_eKd _)) .nil) ?_
  simp [go_sem]
  exact .hf _ (hf_eKd _)
 ·simp [go_sem]
  refine CallStep.pure (closureU a ha) (.cons (.hf (hf_eKd _)) .nil) ?_
  simp [go_sem]
  refine CallStep.pure (diagU c hc 2 (by omega) (by omega)) (.cons (.hf (hf_eCk _)) (.cons (.hf (HF.sc _)) .nil)) ?_
  simp [go_sem]
  refine CallStep.pure (sumU true (kClo a) (kDiag c.ts.sorts.length 2) (ok2_clo ha).okK.len (ok2_kDiag _ hns).okK.len) (.cons (.hf (hf_eKd _)) (.cons (.hf (hf_lKd _ [_])) .nil)) ?_
  simp [go_sem]
  exact .hf _ (hf_eKd _)
theorem hfK2 (n:Int) (ts:List Tp):HF (.agg [aI n,mKd ts]):=hf_eKd ⟨n,ts⟩
theorem hfKn:HF (.agg [aI 0,.sc (.map none)]):=hf_eKo none
theorem wkR (n:Nd) (b:Bool) (e:Int):WKs [aB b,aI e,eNd n] [aB b,aI e,eNd n] := .cons (.hf (HF.sc _)) (.cons (.hf (HF.sc _)) (.cons (.hf (hf_eNd n)) .nil))
structure ApOk (op:Int) (l:List (Option Kd)):Prop where
 one:op=5→∃ a,l=[a]
 bin:op=11∨op=12∨op=13→∃ a,l=[some a]∧okK a∧(a.ar=2→ok2 a)
 two:op=6∨op=14∨op=7∨op=8∨op=32∨op=33∨op=9∨op=10→∃ a b,l=[some a,some b]∧okK a∧okK b
theorem applyK_other {ns:Nat} {op n pos:Int} {l:List (Option Kd)} (h2:op≠2) (h3:op≠3) (h4:op≠4) (h5:op≠5) (b1:op≠11) (b2:op≠12) (b3:op≠13) (t1:op≠6) (t2:op≠14) (t3:op≠7) (t4:op≠8) (t5:op≠32) (t6:op≠33) (h9:op≠9) (h10:op≠10):applyK ns op n pos l = .ok none:=by
 unfold applyK
 rw [if_neg h2,if_neg h3,if_neg h4]
 split
 ·simp only [h5,b1,b2,b3,or_self,if_false]
  split<;>rfl
 ·simp only [t1,t2,t3,t4,t5,t6,h9,h10,or_self,if_false]
 ·rfl
theorem applyU (c:Ck) (hc:okCk c) (full:Bool) (n:Nd) (l:List (Option Kd)) (hl:ApOk n.op l):SoundX Tryz.prog 87 [eCk c,eNd n,.lst full (l.map cKo)] (endK (applyK c.ts.sorts.length n.op n.n n.pos l)):=by
 refine SoundG.of_sound ?_
 refine Sound.of_awp Tryz.call87 Tryz.func87 rfl (Nat.le_of_ble_eq_true (by kernel_rfl)) (by kernel_rfl) (pl:={}) ?_
 by_cases ho:n.op=2∨n.op=3∨n.op=4∨n.op=5∨n.op=11∨n.op=12∨n.op=13∨n.op=6∨n.op=14∨n.op=7∨n.op=8∨n.op=32∨n.op=33∨n.op=9∨n.op=10
 case neg =>
  simp only [not_or] at ho
  obtain ⟨h2,h3,h4,h5,b1,b2,b3,t1,t2,t3,t4,t5,t6,h9,h10⟩:=ho
  rw [applyK_other h2 h3 h4 h5 b1 b2 b3 t1 t2 t3 t4 t5 t6 h9 h10]
  simp [go_sem,h2,h3,h4,h5,b1,b2,b3,t1,t2,t3,t4,t5,t6,h9,h10]
  exact .hf _ hfKn
 unfold applyK
 by_cases h2:n.op=2
 ·simp [go_sem,h2]
  refine CallStep.pure (emptyU n.n) (.cons (.hf (HF.sc _)) .nil) ?_
  simp [go_sem]
  exact .hf _ (hfK2 _ _)
 by_cases h3:n.op=3
 ·simp [go_sem,h3]
  refine CallStep.pure (diagU c hc 1 (by omega) (by omega)) (.cons (.hf (hf_eCk _)) (.cons (.hf (HF.sc _)) .nil)) ?_
  simp [go_sem]
  exact .hf _ (hf_eKd _)
 by_cases h4:n.op=4
 ·simp [go_sem,h4]
  refine CallStep.pure (diagU c hc 2 (by omega) (by omega)) (.cons (.hf (hf_eCk _)) (.cons (.hf (HF.sc _)) .nil)) ?_
  simp [go_sem]
  exact .hf _ (hf_eKd _)
 by_cases h5:n.op=5
 ·obtain ⟨a,rfl⟩:=hl.one h5
  cases a with
  |none=>simp [go_sem,h5];exact .hf _ hfKn
  |some a=>simp [go_sem,h5];exact .hf _ (hfK2 _ _)
 by_cases hb:n.op=11∨n.op=12∨n.op=13
 ·obtain ⟨a,rfl,ha,ha2⟩:=hl.bin hb
  have hbi:=fun h=>binaryU c hc n.op a (ha2 h) hb
  by_cases h2':a.ar=2
  ·have hbi:=hbi h2'
   rcases hb with h | h | h<;>rw [h] at hbi
   all_goals
    simp [go_sem,h,h2']
    refine DrawGo.intro (by kernel_rfl) ?_
    simp [go_sem,h,h2']
    refine CallStep.pure (needU true 42 n).toP (wkR n true 42) ?_
    simp [go_sem]
    refine DrawGo.intro (by kernel_rfl) ?_
    simp [go_sem,h]
    refine CallStep.pure hbi (.cons (.hf (hf_eCk _)) (.cons (.hf (HF.sc _)) (.cons (.hf (hf_eKd _)) .nil))) ?_
    simp [go_sem]
    exact .hf _ (hf_eKd _)
  ·rcases hb with h | h | h
   all_goals
    simp [go_sem,h,h2']
    refine DrawGo.tail 6 (by kernel_rfl) ?_
    simp [go_sem,h,h2']
    refine CallStep.pans (needU false 42 n) (wkR n false 42) ?_
    simp [go_sem]
    exact .hf _ (hf_stopV _ _)
 by_cases ht:n.op=6∨n.op=14∨n.op=7∨n.op=8∨n.op=32∨n.op=33
 ·obtain ⟨a,b,rfl,ha,hb'⟩:=hl.two (by omega)
  have hal:=alikeU n.op a b ha hb'
  simp only [not_or] at hb
  by_cases h2':a.ar=b.ar
  ·rcases ht with h | h | h | h | h | h<;>rw [h] at hal
   all_goals
    simp [go_sem,h,h2']
    refine DrawGo.intro (by kernel_rfl) ?_
    simp [go_sem,h,h2']
    refine CallStep.pure (needU true 42 n).toP (wkR n true 42) ?_
    simp [go_sem]
    refine DrawGo.intro (by kernel_rfl) ?_
    simp [go_sem,h]
    refine CallStep.pure hal (.cons (.hf (HF.sc _)) (.cons (.hf (hf_eKd _)) (.cons (.hf (hf_eKd _)) .nil))) ?_
    simp [go_sem]
    exact .hf _ (hf_eKd _)
  ·rcases ht with h | h | h | h | h | h
   all_goals
    simp [go_sem,h,h2']
    refine DrawGo.tail 10 (by kernel_rfl) ?_
    simp [go_sem,h,h2']
    refine CallStep.pans (needU false 42 n) (wkR n false 42) ?_
    simp [go_sem]
    exact .hf _ (hf_stopV _ _)
 simp only [not_or] at hb ht
 by_cases h9:n.op=9
 ·obtain ⟨a,b,rfl,ha,hb'⟩:=hl.two (by omega)
  have hj:=joinU a b ha hb'
  have w1:IntKind.i64.wrap (a.ar+b.ar)=a.ar+b.ar:=wrap_i64 (by have:=ha.ar;have:=hb'.ar;omega) (by have:=ha.ar;have:=hb'.ar;omega)
  have w2:IntKind.i64.wrap (a.ar+b.ar-2)=a.ar+b.ar-2:=wrap_i64 (by have:=ha.ar;have:=hb'.ar;omega) (by have:=ha.ar;have:=hb'.ar;omega)
  simp [go_sem,h9]
  refine DrawGo.intro (by kernel_rfl) ?_
  by_cases hk1:1≤a.ar+b.ar-2
  ·by_cases hk2:a.ar+b.ar-2≤3
   ·simp [go_sem,h9,w1,w2,hk1,hk2]
    refine CallStep.pure (needU true 42 n).toP (wkR n true 42) ?_
    simp [go_sem]
    refine DrawGo.intro (by kernel_rfl) ?_
    simp [go_sem,h9]
    refine CallStep.pure hj (.cons (.hf (hf_eKd _)) (.cons (.hf (hf_eKd _)) .nil)) ?_
    simp [go_sem]
    exact .hf _ (hf_eKd _)
   ·simp [go_sem,h9,w1,w2,hk1,hk2]
    refine CallStep.pans (needU false 42 n) (wkR n false 42) ?_
    simp [go_sem]
    exact .hf _ (hf_stopV _ _)
  ·simp [go_sem,h9,w1,w2,hk1]
   refine CallStep.pans (needU false 42 n) (wkR n false 42) ?_
   simp [go_sem]
   exact .hf _ (hf_stopV _ _)
 by_cases h10:n.op=10
 ·obtain ⟨a,b,rfl,ha,hb'⟩:=hl.two (by omega)
  have w1:IntKind.i64.wrap (a.ar+b.ar)=a.ar+b.ar:=wrap_i64 (by have:=ha.ar;have:=hb'.ar;omega) (by have:=ha.ar;have:=hb'.ar;omega)
  by_cases hk2:a.ar+b.ar≤3
  ·have hj:=prodU a b ha hb' hk2
   simp [go_sem,h10]
   refine DrawGo.intro (by kernel_rfl) ?_
   simp [go_sem,h10,w1,hk2]
   refine CallStep.pure (needU true 42 n).toP (wkR n true 42) ?_
   simp [go_sem]
   refine DrawGo.intro (by kernel_rfl) ?_
   simp [go_sem,h10]
   refine CallStep.pure hj (.cons (.hf (hf_eKd _)) (.cons (.hf (hf_eKd _)) .nil)) ?_
   simp [go_sem]
   exact .hf _ (hf_eKd _)
  ·simp [go_sem,h10]
   refine DrawGo.tail 11 (by kernel_rfl) ?_
   simp [go_sem,h10,w1,hk2]
   refine CallStep.pans (needU false 42 n) (wkR n false 42) ?_
   simp [go_sem]
   exact .hf _ (hf_stopV _ _)
 exact absurd ho (by omega)
end Go.Proofs.YtcfopdccdeeleaaGreatDoor.Y12


namespace Go.Proofs.YtcfopdccdeeleaaGreatDoor.P2
open Go Go.Ev Go.Proofs Y1 Y2 Y3 Y4 P1 YM Y5 Y6 Y7 Y8 YF Y9 Y10 Y11 Y12
def kd (op:Int):Int:=if 1≤op∧op≤15 then 101 else if 20≤op∧op≤23 then 105 else if 30≤op∧op≤51 then 102 else 0
def shp (op:Int) (nk:Nat):Option (List Int):=
 if op=1∨op=2∨op=3∨op=4∨op=20∨op=30∨op=31 then some []
 else if op=5∨op=11∨op=12∨op=13∨op=21∨op=34∨op=35∨op=36∨op=37 then some [101]
 else if op=6∨op=7∨op=8∨op=9∨op=10∨op=14∨op=32∨op=33 then some [101,101]
 else if op=15∨op=45∨op=46 then some [101,102]
 else if op=22∨op=23∨op=38∨op=39 then some [105,105]
 else if op=40∨op=48∨op=49∨op=50 then some [102]
 else if op=41∨op=42∨op=43∨op=44∨op=51 then some [102,102]
 else if op=47 then some (List.replicate (min nk 401) 101)
 else none
inductive WfN:Nd→Prop where
 |mk (n:Nd) (h:shp n.op n.kids.length=some (n.kids.map fun k=>kd k.op)) (hn:n.op=2→1≤n.n∧n.n≤3) (hk:∀ k,k∈n.kids→WfN k):WfN n
theorem WfN.shape {n:Nd} (h:WfN n):shp n.op n.kids.length=some (n.kids.map fun k=>kd k.op):=by cases h;assumption
theorem WfN.num {n:Nd} (h:WfN n):n.op=2→1≤n.n∧n.n≤3:=by cases h;assumption
theorem WfN.kid {n k:Nd} (h:WfN n) (hk:k∈n.kids):WfN k:=by
 cases h with
 |mk _ _ _ h=>exact h k hk
theorem shp_len {op:Int} {nk:Nat} {l:List Int} (h:shp op nk=some l):l.length≤401:=by
 unfold shp at h
 repeat' (split at h)
 all_goals try cases h
 all_goals try simp
 all_goals try omega
theorem WfN.len {n:Nd} (h:WfN n):n.kids.length≤401:=by
 have:=shp_len h.shape
 simpa using this
theorem WfN.small {n:Nd} (h:WfN n):Small n:=by
 induction h with
 |mk n hs hn hk ih=>exact .mk n (by have:=shp_len hs;simp at this;omega) ih
structure okKd (ns:Nat) (k:Kd):Prop where
 ar:1≤k.ar∧k.ar≤3
 nd:k.ts.Nodup
 ts:∀ t,t∈k.ts→∃ l,t=pad l∧(l.length:Int)=k.ar∧∀ x,x∈l→0≤x∧x<ns
theorem okKd.okK {ns:Nat} {k:Kd} (h:okKd ns k):okK k:=⟨h.ar,fun t ht=>by obtain ⟨l,rfl,_⟩:=h.ts t ht;rfl,h.nd⟩
theorem okKd.ok2 {ns:Nat} {k:Kd} (h:okKd ns k) (hns:ns≤4) (h2:k.ar=2):ok2 k:=⟨h2,h.nd,fun t ht=>by
 obtain ⟨l,rfl,hl,hr⟩:=h.ts t ht
 rw [h2] at hl
 match l,hl with
 | [x,y],_ =>
  have h1:=hr x (by simp)
  have h2:=hr y (by simp)
  exact ⟨x,y,rfl,by omega,by omega,by omega,by omega⟩⟩
theorem okKd.of2 {ns:Nat} {k:Kd} (h2:k.ar=2) (hnd:k.ts.Nodup) (h:∀ t,t∈k.ts→∃ x y:Int,t=[x,y,0]∧0≤x∧x<ns∧0≤y∧y<ns):okKd ns k:=⟨by omega,hnd,fun t ht=>by
 obtain ⟨x,y,rfl,h1,h3,h4,h5⟩:=h t ht
 exact ⟨[x,y],rfl,by rw [h2];rfl,fun z hz=>by simp at hz;rcases hz with rfl | rfl<;>omega⟩⟩
theorem okKd.pairs {ns:Nat} {k:Kd} (h:okKd ns k) (h2:k.ar=2):∀ t,t∈k.ts→∃ x y:Int,t=[x,y,0]∧0≤x∧x<ns∧0≤y∧y<ns:=fun t ht=>by
 obtain ⟨l,rfl,hl,hr⟩:=h.ts t ht
 rw [h2] at hl
 match l,hl with
 | [x,y],_ =>
  have h1:=hr x (by simp)
  have h2:=hr y (by simp)
  exact ⟨x,y,rfl,h1.1,h1.2,h2.1,h2.2⟩
theorem okKd_kOf {ns:Nat} {l:List Int} (h1:1≤l.length) (h3:l.length≤3) (hr:∀ x,x∈l→0≤x∧x<ns):okKd ns (kOf l):=
 ⟨by simp only [kOf];omega,by simp [kOf],fun t ht=>by
  have ht:t∈[pad l]:=ht
  rw [List.mem_singleton] at ht
  exact ⟨l,ht,rfl,hr⟩⟩
theorem okKd_none {ns:Nat} {n:Int} (h:1≤n∧n≤3):okKd ns ⟨n,[]⟩:=⟨h,by simp,fun t ht=>by simp at ht⟩
theorem okKd_diag (ns ar:Nat) (h1:1≤ar) (h3:ar≤3):okKd ns (kDiag ns ar):=by
 refine ⟨by simp only [kDiag];omega,?_,fun t ht=>?_⟩
 ·refine List.pairwise_map.2 ((List.pairwise_iff_getElem.2 fun i j hi hj hij=>?_))
  simp only [List.getElem_range]
  obtain ⟨a,rfl⟩:∃ a,ar=a+1:=⟨ar-1,by omega⟩
  intro e
  simp [pad,List.replicate_succ] at e
  omega
 ·have ht:t∈(List.range ns).map fun (i:Nat)=>pad (List.replicate ar (i:Int)):=ht
  obtain ⟨i,hi,rfl⟩:=List.mem_map.1 ht
  rw [List.mem_range] at hi
  exact ⟨_,rfl,by simp [kDiag],fun x hx=>by rw [List.eq_of_mem_replicate hx];omega⟩
theorem okKd_sum {ns:Nat} {a b:Kd} (ha:okKd ns a) (hb:okKd ns b) (h:a.ar=b.ar):okKd ns (kSum a b):=by
 refine ⟨ha.ar,nodup_uni (nodup_uni (by simp)),fun t ht=>?_⟩
 have ht:t∈uni (uni [] a.ts) b.ts:=ht
 simp only [mem_uni,List.not_mem_nil,false_or] at ht
 rcases ht with ht | ht
 ·exact ha.ts t ht
 ·obtain ⟨l,e,hl,hr⟩:=hb.ts t ht
  exact ⟨l,e,by rw [hl,←h];rfl,hr⟩
theorem okKd_inter {ns:Nat} {a b:Kd} (ha:okKd ns a):okKd ns (kInter a b):=
 ⟨ha.ar,ha.nd.filter _,fun t ht=>ha.ts t (List.mem_filter.1 ht).1⟩
theorem okKd_alike {ns:Nat} {op:Int} {a b:Kd} (ha:okKd ns a) (hb:okKd ns b) (h:a.ar=b.ar):okKd ns (alikeK op a b):=by
 unfold alikeK
 split
 ·exact okKd_sum ha hb h
 ·split
  ·exact okKd_inter ha
  ·exact ha
theorem pad_take' {l:List Int} (h:l.length≤3) (k:Nat) (hk:k≤l.length):(pad l).take k=l.take k:=by
 match l,h with
 | [],_=>simp at hk;subst hk;rfl
 | [a],_=>match k,hk with
  | 0,_=>rfl
  | 1,_=>rfl
 | [a,b],_=>match k,hk with
  | 0,_=>rfl
  | 1,_=>rfl
  | 2,_=>rfl
 | [a,b,c],_=>match k,hk with
  | 0,_=>rfl
  | 1,_=>rfl
  | 2,_=>rfl
  | 3,_=>rfl
theorem conc_pad {lx ly:List Int} (hx:lx.length≤3) (hy:ly.length≤3) (s:Nat):conc (pad lx) lx.length (pad ly) ly.length s=pad (lx.take (lx.length-s)++ly.drop s):=by
 unfold conc
 rw [pad_take' hx _ (by omega),pad_take' hy _ (Nat.le_refl _),List.take_length]
theorem okKd_join {ns:Nat} {a b:Kd} (ha:okKd ns a) (hb:okKd ns b) (h1:1≤a.ar+b.ar-2) (h3:a.ar+b.ar-2≤3):okKd ns (kJoin a b):=by
 refine ⟨⟨h1,h3⟩,nodup_joinL,fun t ht=>?_⟩
 obtain ⟨x,y,⟨hx,hy⟩,hf⟩:=mem_joinL.1 ht
 obtain ⟨lx,rfl,hlx,hrx⟩:=ha.ts x hx
 obtain ⟨ly,rfl,hly,hry⟩:=hb.ts y hy
 have hax:=ha.ar
 have hbx:=hb.ar
 unfold joinF at hf
 split at hf
 ·simp only [Option.some.injEq] at hf
  rw [show a.ar.toNat=lx.length by omega,show b.ar.toNat=ly.length by omega,conc_pad (by omega) (by omega)] at hf
  refine ⟨_,hf.symm,?_,fun z hz=>?_⟩
  ·show ((lx.take (lx.length-1)++ly.drop 1).length:Int)=a.ar+b.ar-2
   simp only [List.length_append,List.length_take,List.length_drop];omega
  ·rcases List.mem_append.1 hz with hz | hz
   ·exact hrx z (List.mem_of_mem_take hz)
   ·exact hry z (List.mem_of_mem_drop hz)
 ·exact absurd hf (by simp)
theorem okKd_prod {ns:Nat} {a b:Kd} (ha:okKd ns a) (hb:okKd ns b) (h3:a.ar+b.ar≤3):okKd ns (kProd a b):=by
 have hax:=ha.ar
 have hbx:=hb.ar
 refine ⟨⟨by simp only [kProd];omega,h3⟩,nodup_prodL,fun t ht=>?_⟩
 obtain ⟨x,y,⟨hx,hy⟩,hf⟩:=mem_prodL.1 ht
 obtain ⟨lx,rfl,hlx,hrx⟩:=ha.ts x hx
 obtain ⟨ly,rfl,hly,hry⟩:=hb.ts y hy
 unfold prodF at hf
 simp only [Option.some.injEq] at hf
 rw [show a.ar.toNat=lx.length by omega,show b.ar.toNat=ly.length by omega,conc_pad (by omega) (by omega)] at hf
 refine ⟨_,hf.symm,?_,fun z hz=>?_⟩
 ·show ((lx.take (lx.length-0)++ly.drop 0).length:Int)=a.ar+b.ar
  simp only [List.length_append,List.length_take,List.length_drop];omega
 ·rcases List.mem_append.1 hz with hz | hz
  ·exact hrx z (List.mem_of_mem_take hz)
  ·exact hry z (List.mem_of_mem_drop hz)
theorem okKd_tr {ns:Nat} {a:Kd} (ha:okKd ns a) (h2:a.ar=2):okKd ns (kTr a):=by
 refine okKd.of2 rfl (nodup_uni (by simp)) (fun t ht=>?_)
 obtain ⟨x,hx,rfl⟩:=mem_kTr.1 ht
 obtain ⟨p,q,rfl,h1,h3,h4,h5⟩:=ha.pairs h2 x hx
 exact ⟨q,p,rfl,h4,h5,h1,h3⟩
theorem okKd_clo {ns:Nat} {a:Kd} (ha:okKd ns a) (h2:a.ar=2):okKd ns (kClo a)∧(kClo a).ar=2:=by
 have:∀(f n:Nat) (a:Kd),okKd ns a→a.ar=2→okKd ns (cloN f n a)∧(cloN f n a).ar=2:=by
  intro f
  induction f with
  |zero=>intro n a h h2;exact ⟨h,h2⟩
  |succ f ih =>
   intro n a h h2
   unfold cloN
   split
   ·exact ih _ _ (okKd_sum h (okKd_join h h (by omega) (by omega)) (by simp only [kJoin];omega)) h2
   ·exact ⟨h,h2⟩
 exact this 70 0 a ha h2
theorem okKd_bin {ns:Nat} {op:Int} {a:Kd} (ha:okKd ns a) (h2:a.ar=2):okKd ns (binK ns op a):=by
 unfold binK
 split
 ·exact (okKd_clo ha h2).1
 ·split
  ·exact okKd_sum (okKd_clo ha h2).1 (okKd_diag ns 2 (by omega) (by omega)) (by rw [(okKd_clo ha h2).2];rfl)
  ·exact okKd_tr ha h2
def ScOk (ns:Nat) (s:Scp):Prop:=∀ v,v∈s→okKd ns v.2∧v.2.ar=1
theorem findS_mem {nm:ByteArray}:∀{s:Scp} {v:ByteArray×Kd} {r:Scp},findS nm s=v :: r→v∈s
 | [],v,r,h=>by simp [findS] at h
 |w :: s,v,r,h=>by
  unfold findS at h
  split at h
  ·cases h;exact List.mem_cons_self
  ·exact List.mem_cons_of_mem _ (findS_mem h)
theorem okKd_means {ts:TS} (h:okTS ts) {nm:ByteArray} {k:Kd} (hk:k∈means ts nm):okKd ts.sorts.length k:=by
 unfold means at hk
 rcases List.mem_append.1 hk with hk | hk
 ·unfold meanF at hk
  obtain ⟨f,hf,e⟩:=List.mem_filterMap.1 hk
  split at e
  ·cases e
   have:=h.fl f hf
   exact okKd_kOf this.1 this.2.1 this.2.2
  ·exact absurd e (by simp)
 ·have:∀(so:List (ByteArray×Bool)) (i:Nat),i+so.length≤ts.sorts.length→∀ k,k∈meanS i so nm→okKd ts.sorts.length k:=by
   intro so
   induction so with
   |nil=>intro i _ k hk;simp [meanS] at hk
   |cons s so ih =>
    intro i hi k hk
    simp only [List.length_cons] at hi
    have h1:okKd ts.sorts.length (kOf [(i:Int)]):=okKd_kOf (by simp) (by simp) (fun x hx=>by simp at hx;subst hx;omega)
    have h2:okKd ts.sorts.length (kOf [(i:Int),(i:Int)]):=okKd_kOf (by simp) (by simp) (fun x hx=>by simp at hx;subst hx;omega)
    simp only [meanS,meanS1,List.mem_append] at hk
    rcases hk with (hk | hk | hk) | hk
    ·split at hk<;>simp at hk;subst hk;exact h1
    ·split at hk<;>simp at hk;subst hk;exact h1
    ·split at hk<;>simp at hk;subst hk;exact h2
    ·exact ih (i+1) (by omega) k hk
  exact this ts.sorts 0 (by omega) k hk
theorem exam_eq (c:Ck) (s:Scp) (inn:Bool) (n:Nd):exam c s inn n =
  if (inn&&timeOfL c n.op n.name)=true then .error (46,n.pos)
  else if n.op=1 then nameK c s n.name n.pos
  else if n.op=47 then
   if (c.ts.preds.any fun p=>decide (p.name=n.name))=true then
    match calleeL c n.name with
    |none => .error (45,n.pos)
    |some p=>match c.ts.preds[p]? with
     |none => .error (45,n.pos)
     |some pd=>if pd.params.length=n.kids.length then examA c s n.pos pd.params n.kids else .error (45,n.pos)
   else .error (40,n.pos)
  else if n.op=15∨n.op=45∨n.op=46 then examB c s (inn||decide (n.op=15)) n.name n.pos n.kids
  else match examL c s (inn||decide (n.op=12)||decide (n.op=13)) n.kids with
   | .error e => .error e
   | .ok l=>applyK c.ts.sorts.length n.op n.n n.pos l:=by
 obtain ⟨op,nm,k,ks,pos⟩:=n
 simp only [exam,Nd.op,Nd.name,Nd.n,Nd.kids,Nd.pos]
 rfl
theorem examL_ok {c:Ck} {s:Scp} {inn:Bool}:∀{ks:List Nd} {l:List (Option Kd)},examL c s inn ks = .ok l→l.length=ks.length∧∀(i:Nat) k a,ks[i]?=some k→l[i]?=some a→exam c s inn k = .ok a
 | [],l,h=>by simp only [examL,Except.ok.injEq] at h;subst h;simp
 |k :: ks,l,h=>by
  simp only [examL] at h
  cases hk:exam c s inn k with
  |error e=>rw [hk] at h;exact absurd h (by simp)
  |ok a =>
   rw [hk] at h
   simp only at h
   cases hl:examL c s inn ks with
   |error e=>rw [hl] at h;exact absurd h (by simp)
   |ok r =>
    rw [hl] at h
    simp only [Except.ok.injEq] at h
    subst h
    obtain ⟨h1,h2⟩:=examL_ok hl
    refine ⟨by simp [h1],fun i k' a' hi ha=>?_⟩
    cases i with
    |zero=>simp at hi ha;subst hi;subst ha;exact hk
    |succ i=>exact h2 i k' a' (by simpa using hi) (by simpa using ha)
theorem kd_101 {op:Int} (h:1≤op∧op≤15):kd op=101:=by unfold kd;rw [if_pos h]
theorem of_kd {op:Int} (h:kd op=101):1≤op∧op≤15:=by
 unfold kd at h
 split at h
 ·assumption
 ·split at h
  ·exact absurd h (by omega)
  ·split at h<;>exact absurd h (by omega)
theorem apOk_of {ns:Nat} (hns:ns≤4) {n:Nd} (hw:WfN n) {l:List (Option Kd)} (hl:l.length=n.kids.length) (h:∀(i:Nat) k a,n.kids[i]?=some k→l[i]?=some a→kd k.op=101→∃ q,a=some q∧okKd ns q) :
  ApOk n.op l∧(n.op=5→∃ a,l=[some a]∧okKd ns a)∧(n.op=11∨n.op=12∨n.op=13→∃ a,l=[some a]∧okKd ns a)∧(n.op=6∨n.op=14∨n.op=7∨n.op=8∨n.op=32∨n.op=33∨n.op=9∨n.op=10→∃ a b,l=[some a,some b]∧okKd ns a∧okKd ns b):=by
 have hs:=hw.shape
 have h1:n.op=5∨n.op=11∨n.op=12∨n.op=13→∃ a,l=[some a]∧okKd ns a:=by
  intro ho
  have e:shp n.op n.kids.length=some [101]:=by
   unfold shp
   rw [if_neg (by omega),if_pos (by omega)]
  rw [e] at hs
  simp only [Option.some.injEq] at hs
  match hk:n.kids,hs with
  | [k],hs =>
   simp at hs
   rw [hk] at hl
   match l,hl with
   | [a],_ =>
    obtain ⟨q,rfl,hq⟩:=h 0 k a (by rw [hk];rfl) rfl hs.symm
    exact ⟨q,rfl,hq⟩
  | [],hs=>simp at hs
  |_ :: _ :: _,hs=>simp at hs
 have h2:n.op=6∨n.op=14∨n.op=7∨n.op=8∨n.op=32∨n.op=33∨n.op=9∨n.op=10→∃ a b,l=[some a,some b]∧okKd ns a∧okKd ns b:=by
  intro ho
  have e:shp n.op n.kids.length=some [101,101]:=by
   unfold shp
   rw [if_neg (by omega),if_neg (by omega),if_pos (by omega)]
  rw [e] at hs
  simp only [Option.some.injEq] at hs
  match hk:n.kids,hs with
  | [k,k'],hs =>
   simp at hs
   rw [hk] at hl
   match l,hl with
   | [a,b],_ =>
    obtain ⟨q,rfl,hq⟩:=h 0 k a (by rw [hk];rfl) rfl hs.1.symm
    obtain ⟨q',rfl,hq'⟩:=h 1 k' b (by rw [hk];rfl) rfl hs.2.symm
    exact ⟨q,q',rfl,hq,hq'⟩
  | [],hs=>simp at hs
  | [_],hs=>simp at hs
  |_ :: _ :: _ :: _,hs=>simp at hs
 refine ⟨⟨fun ho=>?_,fun ho=>?_,fun ho=>?_⟩,fun ho=>h1 (.inl ho),fun ho=>h1 (.inr ho),h2⟩
 ·obtain ⟨a,rfl,_⟩:=h1 (.inl ho);exact ⟨_,rfl⟩
 ·obtain ⟨a,rfl,ha⟩:=h1 (.inr ho);exact ⟨a,rfl,ha.okK,ha.ok2 hns⟩
 ·obtain ⟨a,b,rfl,ha,hb⟩:=h2 ho;exact ⟨a,b,rfl,ha.okK,hb.okK⟩
theorem exam_ok {c:Ck} (hc:okCk c):∀(m:Nat) (n:Nd) (s:Scp) (inn:Bool) (ko:Option Kd),szN n≤m→WfN n→ScOk c.ts.sorts.length s→exam c s inn n = .ok ko→kd n.op=101→∃ k,ko=some k∧okKd c.ts.sorts.length k
 | 0,n,_,_,_,hm,_,_,_,_=>by obtain ⟨op,nm,i,ks,p⟩:=n;simp [szN] at hm
 |m+1,n,s,inn,ko,hm,hw,hs,h,hop=>by
  have ho:=of_kd hop
  have hns:=hc.ts.ns
  rw [exam_eq] at h
  split at h
  ·exact absurd h (by simp)
  split at h
  ·unfold nameK at h
   split at h
   ·rename_i v r hf
    simp only [Except.ok.injEq] at h
    exact ⟨v.2,h.symm,(hs v (findS_mem hf)).1⟩
   ·split at h
    ·exact absurd h (by simp)
    ·rename_i k hk
     simp only [Except.ok.injEq] at h
     exact ⟨k,h.symm,okKd_means hc.ts (by rw [hk];simp)⟩
    ·exact absurd h (by simp)
  split at h
  ·omega
  split at h
  ·rename_i hb
   have hsh:=hw.shape
   have e:shp n.op n.kids.length=some [101,102]:=by
    unfold shp
    rw [if_neg (by omega),if_neg (by omega),if_neg (by omega),if_pos (by omega)]
   rw [e] at hsh
   simp only [Option.some.injEq] at hsh
   match hk:n.kids,hsh with
   | [a,f],hsh =>
    simp at hsh
    rw [hk] at h
    simp only [examB] at h
    cases hq:exam c s (inn||decide (n.op=15)) a with
    |error e=>rw [hq] at h;exact absurd h (by simp)
    |ok q =>
     obtain ⟨k,rfl,hkk⟩:=exam_ok hc m a s _ q (by have:=kid_lt (n:=n) (k:=a) (by rw [hk];simp);omega) (hw.kid (by rw [hk];simp)) hs hq hsh.1.symm
     rw [hq] at h
     simp only at h
     split at h
     ·split at h
      ·exact absurd h (by simp)
      ·simp only [Except.ok.injEq] at h
       exact ⟨k,h.symm,hkk⟩
     ·exact absurd h (by simp)
   | [],hsh=>simp at hsh
   | [_],hsh=>simp at hsh
   |_ :: _ :: _ :: _,hsh=>simp at hsh
  ·rename_i n1 n47 nb
   cases hl:examL c s (inn||decide (n.op=12)||decide (n.op=13)) n.kids with
   |error e=>rw [hl] at h;exact absurd h (by simp)
   |ok l =>
    rw [hl] at h
    simp only at h
    obtain ⟨hlen,hex⟩:=examL_ok hl
    obtain ⟨_,a5,a1,a2⟩:=apOk_of (ns:=c.ts.sorts.length) hns hw hlen (fun i k a hi ha hkd=>exam_ok hc m k s _ a (by have:=kid_lt (n:=n) (List.mem_of_getElem? hi);omega) (hw.kid (List.mem_of_getElem? hi)) hs (hex i k a hi ha) hkd)
    unfold applyK at h
    split at h
    ·rename_i h2
     simp only [Except.ok.injEq] at h
     exact ⟨_,h.symm,okKd_none (hw.num h2)⟩
    split at h
    ·simp only [Except.ok.injEq] at h
     exact ⟨_,h.symm,okKd_diag _ 1 (by omega) (by omega)⟩
    split at h
    ·simp only [Except.ok.injEq] at h
     exact ⟨_,h.symm,okKd_diag _ 2 (by omega) (by omega)⟩
    have hcase:n.op=5∨(n.op=11∨n.op=12∨n.op=13)∨(n.op=6∨n.op=14∨n.op=7∨n.op=8∨n.op=32∨n.op=33∨n.op=9∨n.op=10):=by omega
    rcases hcase with h5 | h1 | h2
    ·obtain ⟨a,rfl,ha⟩:=a5 h5
     simp only [if_pos h5,Except.ok.injEq] at h
     exact ⟨a,h.symm,ha⟩
    ·obtain ⟨a,rfl,ha⟩:=a1 h1
     have n5:n.op≠5:=by omega
     simp only [if_neg n5,if_pos h1] at h
     split at h
     ·simp only [Except.ok.injEq] at h
      exact ⟨_,h.symm,okKd_bin ha (by assumption)⟩
     ·exact absurd h (by simp)
    ·obtain ⟨a,b,rfl,ha,hb⟩:=a2 h2
     simp only at h
     split at h
     ·split at h
      ·simp only [Except.ok.injEq] at h
       exact ⟨_,h.symm,okKd_alike ha hb (by assumption)⟩
      ·exact absurd h (by simp)
     ·split at h
      ·split at h
       ·rename_i hj
        simp only [Except.ok.injEq] at h
        exact ⟨_,h.symm,okKd_join ha hb hj.1 hj.2⟩
       ·exact absurd h (by simp)
      ·split at h
       ·split at h
        ·simp only [Except.ok.injEq] at h
         exact ⟨_,h.symm,okKd_prod ha hb (by assumption)⟩
        ·exact absurd h (by simp)
       ·omega
end Go.Proofs.YtcfopdccdeeleaaGreatDoor.P2


namespace Go.Proofs.YtcfopdccdeeleaaGreatDoor.Y13
open Go Go.Ev Go.Proofs Y1 Y2 Y3 Y4 P1 YM Y5 Y6 Y7 Y8 YS YF Y9 Y10 Y11 Y12 P2
theorem call1U (p:Pd) (n:Nd):SoundP Tryz.prog 129 [.agg (cPd p),.ip (cNd n)] (aB (decide (p.name=n.name))):=by
 refine SoundP.of_sound (Sound.of_awp Tryz.call129 Tryz.func129 rfl (Nat.le_of_ble_eq_true (by kernel_rfl)) (by kernel_rfl) (pl:={}) ?_)
 simp [go_sem,toL_eq]
 exact .hf _ (HF.sc _)
def callK (c:Ck) (s:Scp) (n:Nd):Res:=
 if (c.ts.preds.any fun p=>decide (p.name=n.name))=true then
  match calleeL c n.name with
  |none => .error (45,n.pos)
  |some p=>match c.ts.preds[p]? with
   |none => .error (45,n.pos)
   |some pd=>if pd.params.length=n.kids.length then examA c s n.pos pd.params n.kids else .error (45,n.pos)
 else .error (40,n.pos)
def endC:Res→AEnd
 | .ok _ => .ret (.tup [])
 | .error e => .pan (stopV e.1 e.2)
@[go_sem] theorem endC_ok (k:Option Kd):endC (.ok k) = .ret (.tup []):=rfl
@[go_sem] theorem endC_error (e:Dg):endC (.error e) = .pan (stopV e.1 e.2):=rfl
theorem hf_ipN (n:Nd):HF (.ip (cNd n)):=HF.ip (hf_cNd n)
theorem hf_t0:HF (.tup []):=HF.tup (by simp)
theorem callU (c:Ck) (hc:okCk c) (s:Scp) (hs:ScOk c.ts.sorts.length s) (n:Nd) (hw:WfN n) (hop:n.op=47)
  (ih:∀ k,k∈n.kids→SoundX Tryz.prog 42 [eCk c,aSc s,eNd k,aB true] (endK (exam c s true k))) :
  SoundX Tryz.prog 86 [eCk c,aSc s,eNd n] (endC (callK c s n)):=by
 refine SoundG.of_sound ?_
 refine Sound.of_awp Tryz.call86 Tryz.func86 rfl (Nat.le_of_ble_eq_true (by kernel_rfl)) (by kernel_rfl) (pl:={}) ?_
 have hnp:=hc.ts.np
 have hkl:=hw.len
 have hany:=hasPd false c.ts.preds (.fn (.func 129) [] [.ip (cNd n)]) (fun p=>decide (p.name=n.name)) ⟨_,_,_,rfl,fun p hp=>⟨_,call1U p n,.cons (.hf (HF.agg (hf_cPd p))) (.cons (.hf (hf_ipN n)) .nil)⟩⟩ (HF.fn (by simp) (fun x hx=>by simp at hx;subst hx;exact hf_ipN n)) (hf_lPd _) (by omega)
 have hwk:WKs [lPd c.ts.preds,.fn (.func 129) [] [.ip (cNd n)]] [lPd c.ts.preds,.fn (.func 129) [] [.ip (cNd n)]] := .cons (.hf (hf_lPd _)) (.cons (.hf (HF.fn (by simp) (fun x hx=>by simp at hx;subst hx;exact hf_ipN n))) .nil)
 generalize hR:callK c s n=R
 unfold callK at hR
 simp [go_sem]
 cases hA:c.ts.preds.any (fun p=>decide (p.name=n.name)) with
 |false =>
  rw [hA] at hany hR
  subst hR
  refine DrawGo.tail 8 (by kernel_rfl) ?_
  simp [go_sem]
  refine CallStep.pure hany hwk ?_
  simp [go_sem]
  refine CallStep.pans (needU false 40 n) (wkR n false 40) ?_
  simp [go_sem]
  exact .hf _ (hf_stopV _ _)
 |true =>
  rw [hA] at hany hR
  rw [if_pos rfl] at hR
  refine DrawGo.intro (by kernel_rfl) ?_
  simp [go_sem]
  refine CallStep.pure hany hwk ?_
  simp [go_sem]
  refine CallStep.pure (needU true 40 n).toP (wkR n true 40) ?_
  simp [go_sem]
  refine CallStep.pure (calleeU c hc n.name) (.cons (.hf (hf_eCk c)) (.cons (.hf (HF.sc _)) .nil)) ?_
  cases hcal:calleeL c n.name with
  |none =>
   rw [hcal] at hR
   subst hR
   simp [go_sem]
   refine DrawGo.tail 19 (by kernel_rfl) ?_
   simp [go_sem]
   refine CallStep.pans (needU false 45 n) (wkR n false 45) ?_
   simp [go_sem]
   exact .hf _ (hf_stopV _ _)
  |some p =>
   obtain ⟨hp1,hp2⟩:=calleeL_lt hc hcal
   have hpd:=hc.ts.pl _ (List.getElem_mem hp2)
   rw [hcal] at hR
   simp only [List.getElem?_eq_getElem hp2] at hR
   simp [go_sem]
   generalize hpp:c.ts.preds[p]=pd at *
   by_cases hpl:pd.params.length=n.kids.length
   ·rw [if_pos hpl] at hR
    refine DrawGo.intro (by kernel_rfl) ?_
    simp [go_sem,hp2,hpp,hpl]
    refine CallStep.pure (needU true 45 n).toP (wkR n true 45) ?_
    simp [go_sem,hp2,hpp,hpl]
    have hsh:=hw.shape
    have hkd:∀(k:Nat) (h:k<n.kids.length),kd n.kids[k].op=101:=by
     have e:shp n.op n.kids.length=some (List.replicate (min n.kids.length 401) 101):=by
      unfold shp
      rw [if_neg (by omega),if_neg (by omega),if_neg (by omega),if_neg (by omega),if_neg (by omega),if_neg (by omega),if_neg (by omega),if_pos hop]
     rw [e] at hsh
     simp only [Option.some.injEq] at hsh
     intro k h
     have h2:(n.kids.map fun k=>kd k.op)[k]?=some (kd n.kids[k].op):=by rw [List.getElem?_map,List.getElem?_eq_getElem h];rfl
     rw [←hsh,List.getElem?_replicate] at h2
     split at h2
     ·simpa using h2.symm
     ·exact absurd h2 (by simp)
    refine LoopGo.upK pd.params.length (fun k st=>st.tm 0=eCk c∧st.tm 1=aSc s∧st.tm 5 = .ip (cNd n)∧st.tm 54=lPm pd.params∧st.tm 55=aI n.kids.length∧st.tm 56=aI k∧examA c s n.pos (pd.params.drop k) (n.kids.drop k)=R) ?_ ?_
    ·exact ⟨by simp [go_sem],by simp [go_sem],by simp [go_sem],by simp [go_sem],by simp [go_sem],by simp [go_sem],by simpa using hR⟩
    ·rintro k st hk ⟨e0,e1,e5,e54,e55,e56,hE⟩
     by_cases hkl':k=pd.params.length
     ·subst hkl'
      rw [List.drop_length,hpl,List.drop_length] at hE
      simp only [examA] at hE
      subst hE
      simp [go_sem,e0,e1,e5,e54,e55,e56,hpl]
      exact .hf _ hf_t0
     ·have hlt:k<pd.params.length:=by omega
      have hlt2:k<n.kids.length:=by omega
      have w1:IntKind.i64.wrap ((k:Int)+1)=(k:Int)+1:=wrap_i64 (by omega) (by omega)
      have hi:=ih n.kids[k] (List.getElem_mem hlt2)
      rw [List.drop_eq_getElem_cons hlt,List.drop_eq_getElem_cons hlt2] at hE
      simp only [examA] at hE
      have hok:=exam_ok hc (szN n.kids[k]) n.kids[k] s true
      have hkk:=hkd k hlt2
      have hwk':=hw.kid (List.getElem_mem hlt2)
      simp [go_sem,e0,e1,e5,e54,e55,e56,hlt,hlt2,cNd_ones]
      cases hx:exam c s true n.kids[k] with
      |error e =>
       rw [hx] at hi hE
       subst hE
       refine CallStep.pans hi (.cons (.hf (hf_eCk c)) (.cons (.hf (hf_aSc s)) (.cons (.hf (hf_eNd _)) (.cons (.hf (HF.sc _)) .nil)))) ?_
       simp [go_sem]
       exact .hf _ (hf_stopV _ _)
      |ok ko =>
       obtain ⟨kk,rfl,hkk2⟩:=hok ko (Nat.le_refl _) hwk' hs hx hkk
       rw [hx] at hi hE
       simp only at hE
       refine CallStep.pure hi.toP (.cons (.hf (hf_eCk c)) (.cons (.hf (hf_aSc s)) (.cons (.hf (hf_eNd _)) (.cons (.hf (HF.sc _)) .nil)))) ?_
       by_cases har:kk.ar=1
       ·rw [if_pos har] at hE
        simp [go_sem,e5,har]
        refine CallStep.pure (needU true 42 n).toP (wkR n true 42) ?_
        simp [go_sem,e0,e1,e5,e54,e55,e56]
        refine LoopGo.seen kk.ts.length (fun seen st'=>st'.tm 0=eCk c∧st'.tm 1=aSc s∧st'.tm 5 = .ip (cNd n)∧st'.tm 54=lPm pd.params∧st'.tm 55=aI n.kids.length∧st'.tm 56=aI k∧st'.tm 9 = .ptr st.mu.length 0∧st'.tm 76 = .ptr (st.mu.length+2) 0 ∧
         st'.mu[st.mu.length]?=some (.arr [aS pd.params[k].1,aI pd.params[k].2])∧st'.mu[st.mu.length+2]?=some (.it (eT kk.ts) seen)∧∀ i t,i∈seen→kk.ts[i]?=some t→t.getD 0 0=pd.params[k].2) ?_ ?_
        ·refine ⟨by simp [go_sem,e0],by simp [go_sem,e1],by simp [go_sem,e5],by simp [go_sem,e54],by simp [go_sem,e55],by simp [go_sem,e56],by simp [go_sem],by simp [go_sem],?_,?_,by simp⟩
         ·simp [go_sem]
         ·simp [go_sem]
        ·rintro seen st' hnd hlt' ⟨f0,f1,f5,f54,f55,f56,f9,f76,g0,g2,hall⟩
         simp [go_sem,f0,f1,f5,f54,f55,f56,f9,f76]
         refine ⟨st.mu.length+2,eT kk.ts,seen,rfl,g2,fun i e hi hns=>?_,fun hdone=>?_⟩
         ·obtain ⟨x,hx2,rfl⟩:=eT_get hi
          have hxo:okT x:=hkk2.okK.len x (List.mem_of_getElem? hx2)
          have hil:i<kk.ts.length:=(List.getElem?_eq_some_iff.1 hx2).1
          have hx3:x.length=3:=hxo
          have hxl:x∈kk.ts:=List.mem_of_getElem? hx2
          have hlen:st.mu.length+2<st'.mu.length:=(List.getElem?_eq_some_iff.1 g2).1
          have hget:∀(c:Cell) (l:List Cell),((st'.mu.set (st.mu.length+2) c)++l)[st.mu.length]?=some (.arr [aS pd.params[k].1,aI pd.params[k].2]):=fun c l=>by
           rw [List.getElem?_append_left (by simp;omega),List.getElem?_set_ne (by omega)];exact g0
          obtain ⟨x0,x1,x2,rfl⟩:∃ x0 x1 x2,x=[x0,x1,x2]:=by
           match x,hx3 with
           | [x0,x1,x2],_=>exact ⟨_,_,_,rfl⟩
          have hrange:0≤x0∧x0<128:=by
           obtain ⟨l,el,hl,hr⟩:=hkk2.ts _ hxl
           rw [har] at hl
           match l,hl with
           | [y],_ =>
            have:=hr y (by simp)
            simp [pad] at el
            have:=hc.ts.ns
            omega
          have w8:IntKind.i64.wrap x0=x0:=wrap_i64 (by omega) (by omega)
          by_cases hq:x0=pd.params[k].2
          ·have w9:IntKind.i64.wrap pd.params[k].2=pd.params[k].2:=by rw [←hq];exact w8
           simp [go_sem,f0,f1,f5,f54,f55,f56,f9,f76,hi,hlen,hns,g2,hget,w8,w9,hq]
           refine CallStep.pure (needU true 43 n).toP (wkR n true 43) ?_
           simp [go_sem]
           refine ⟨i,hil,hns,by simp [go_sem,f0],by simp [go_sem,f1],by simp [go_sem,f5],by simp [go_sem,f54],by simp [go_sem,f55],by simp [go_sem,f56],by simp [go_sem,f9],by simp [go_sem,f76],?_,?_,?_⟩
           ·simp only [put_mu]
            exact hget _ _
           ·simp only [put_mu]
            rw [List.getElem?_append_left (by simpa using hlen),List.getElem?_set_self hlen]
           ·intro j t hj ht
            rcases List.mem_append.1 hj with hj | hj
            ·exact hall j t hj ht
            ·rw [List.mem_singleton] at hj;subst hj
             rw [hx2] at ht;cases ht
             exact hq
          ·have hbad:argOk pd.params[k].2 kk=false:=by
            unfold argOk
            rw [←Bool.not_eq_true,List.all_eq_true]
            intro h
            have:=h _ hxl
            simp at this
            exact hq this
           rw [hbad] at hE
           simp only [Bool.false_eq_true,if_false] at hE
           subst hE
           simp [go_sem,f0,f1,f5,f54,f55,f56,f9,f76,hi,hlen,hns,g2,hget,w8,hq]
           refine CallStep.pans (needU false 43 n) (wkR n false 43) ?_
           simp [go_sem]
           exact .hf _ (hf_stopV _ _)
         ·have hgood:argOk pd.params[k].2 kk=true:=by
           unfold argOk
           rw [List.all_eq_true]
           intro t ht
           obtain ⟨j,hj⟩:=List.mem_iff_getElem?.1 ht
           simpa using hall j t (hdone j (by simpa using (List.getElem?_eq_some_iff.1 hj).1)) hj
          rw [if_pos hgood] at hE
          simp [go_sem,f0,f1,f5,f54,f55,f56,f9,f76,hlt,w1,hlt2]
          refine Keep.mk' ?_
          refine ⟨by simp [go_sem,f0],by simp [go_sem,f1],by simp [go_sem,f5],by simp [go_sem,f54],by simp [go_sem,f55],by simp [go_sem],hE⟩
       ·rw [if_neg har] at hE
        subst hE
        simp [go_sem,e5,har]
        refine CallStep.pans (needU false 42 n) (wkR n false 42) ?_
        simp [go_sem]
        exact .hf _ (hf_stopV _ _)
   ·rw [if_neg hpl] at hR
    subst hR
    refine DrawGo.tail 19 (by kernel_rfl) ?_
    simp [go_sem,hp2,hpp,hpl]
    refine CallStep.pans (needU false 45 n) (wkR n false 45) ?_
    simp [go_sem]
    exact .hf _ (hf_stopV _ _)
theorem ownF_rdCut {lo sz:Nat} {mu:Mu} {av:AV} {xs:List (List AV)} (h:OwnF lo mu sz av xs) (w:rowsOk sz xs) (hf:∀ r,r∈xs→∀ c,c∈r→HF c):Rd (cutM (fun i=>decide (lo≤i)) mu 0) av (.lst false xs):=by
 obtain ⟨ho,hb,hl⟩:=h
 refine Own.rd (sz:=sz) ?_ w hf
 rcases ho with rfl | ⟨b,rfl,hc⟩
 ·exact .inl rfl
 ·refine .inr ⟨b,rfl,?_⟩
  rw [cutM_get,hc]
  simp [hb b _ _ _ rfl]
theorem callK_none {c:Ck} {s:Scp} {n:Nd} {ko:Option Kd} (h:callK c s n = .ok ko):ko=none:=by
 have hA:∀(ks:List Nd) (ps:List (ByteArray×Int)) (ko:Option Kd),examA c s n.pos ps ks = .ok ko→ko=none:=by
  intro ks
  induction ks with
  |nil=>intro ps ko h;cases ps<;>simp [examA] at h<;>exact h.symm
  |cons k ks ih =>
   intro ps ko h
   cases ps with
   |nil=>simp [examA] at h;exact h.symm
   |cons p ps =>
    simp only [examA] at h
    split at h
    ·exact absurd h (by simp)
    ·exact absurd h (by simp)
    ·split at h
     ·split at h
      ·exact ih _ _ h
      ·exact absurd h (by simp)
     ·exact absurd h (by simp)
 unfold callK at h
 split at h
 ·split at h
  ·exact absurd h (by simp)
  ·split at h
   ·exact absurd h (by simp)
   ·split at h
    ·exact hA _ _ _ h
    ·exact absurd h (by simp)
 ·exact absurd h (by simp)
theorem appKo {mu:Mu} {lo:Nat} {s:AV} {xs:List (Option Kd)} {k:Option Kd} {K:AV→Mu→Prop} (ho:OwnF lo mu 2 s (xs.map cKo)) (hl:xs.length≤100000) (kk:∀ av mu',OwnF lo mu' 2 av ((xs++[k]).map cKo)→(∀ i,i<lo→mu'[i]?=mu[i]?)→K av mu') :
  AppendStep Tryz.prog mu #[149,149] s (.lst true [cKo k]) K:=by
 have hrows:∀ l:List (Option Kd),rowsWf 2 (l.map cKo):=fun l r hr=>by
  obtain ⟨n,_,rfl⟩:=List.mem_map.1 hr
  exact cKo_row n
 refine AppendStep.ownF (lo:=lo) (e:=82) (sz:=2) (bt:=16) (zv := .agg [aI 0,.sc (.map none)]) (xs:=xs.map cKo) (ys:=[cKo k]) (by simp [go_sem]) (by simp [go_sem]) (by simp [go_sem]) rfl rfl (by omega) (by omega) ho (by simp [rowsOf]) (hrows xs) (hrows [k]) (by simp;omega) ?_
 intro av mu' h h2
 exact kk av mu' (by rw [List.map_append];exact h) h2
theorem examineU (c:Ck) (hc:okCk c):∀(m:Nat) (n:Nd),szN n≤m→WfN n→∀(s:Scp),ScOk c.ts.sorts.length s→∀ inn:Bool,SoundX Tryz.prog 42 [eCk c,aSc s,eNd n,aB inn] (endK (exam c s inn n))
 | 0,n,hm,_,_,_,_=>by obtain ⟨op,nm,i,ks,p⟩:=n;simp [szN] at hm
 |m+1,n,hm,hw,s,hs,inn=>by
  have ih:∀ k,k∈n.kids→∀ s',ScOk c.ts.sorts.length s'→∀ inn',SoundX Tryz.prog 42 [eCk c,aSc s',eNd k,aB inn'] (endK (exam c s' inn' k)):=fun k hk s' hs' inn' =>
   examineU c hc m k (by have:=kid_lt hk;omega) (hw.kid hk) s' hs' inn'
  refine SoundG.of_sound ?_
  refine Sound.of_awp Tryz.call42 Tryz.func42 rfl (Nat.le_of_ble_eq_true (by kernel_rfl)) (by kernel_rfl) (pl:={}) ?_
  generalize hE:exam c s inn n=E
  rw [exam_eq] at hE
  have htm:=timeOfU c hc n
  simp [go_sem]
  by_cases hT:(inn&&timeOfL c n.op n.name)=true
  ·rw [if_pos hT] at hE
   subst hE
   rw [Bool.and_eq_true] at hT
   obtain ⟨rfl,hT⟩:=hT
   rw [hT] at htm
   refine DrawGo.tail 9 (by kernel_rfl) ?_
   simp [go_sem]
   refine CallStep.pure htm (.cons (.hf (hf_eCk c)) (.cons (.hf (hf_eNd n)) .nil)) ?_
   simp [go_sem]
   refine CallStep.pans (needU false 46 n) (wkR n false 46) ?_
   simp [go_sem]
   exact .hf _ (hf_stopV _ _)
  rw [if_neg hT] at hE
  have hnm:=nameU c hc s n
  have hcl:=fun h=>callU c hc s hs n hw h (fun k hk=>ih k hk s hs true)
  have hwc:WKs [eCk c,aSc s,eNd n] [eCk c,aSc s,eNd n] := .cons (.hf (hf_eCk c)) (.cons (.hf (hf_aSc s)) (.cons (.hf (hf_eNd n)) .nil))
  have hwe:∀(s':Scp) (k:Nd) (b:Bool),WKs [eCk c,aSc s',eNd k,aB b] [eCk c,aSc s',eNd k,aB b]:=fun s' k b => .cons (.hf (hf_eCk c)) (.cons (.hf (hf_aSc s')) (.cons (.hf (hf_eNd k)) (.cons (.hf (HF.sc _)) .nil)))
  have hbinder:n.op=15∨n.op=45∨n.op=46→∃ a f,n.kids=[a,f]∧kd a.op=101:=fun ho=>by
   have hsh:=hw.shape
   have e:shp n.op n.kids.length=some [101,102]:=by
    unfold shp
    rw [if_neg (by omega),if_neg (by omega),if_neg (by omega),if_pos (by omega)]
   rw [e] at hsh
   simp only [Option.some.injEq] at hsh
   match hk:n.kids,hsh with
   | [a,f],hsh=>simp at hsh;exact ⟨a,f,rfl,hsh.1.symm⟩
   | [],hsh=>simp at hsh
   | [_],hsh=>simp at hsh
   |_ :: _ :: _ :: _,hsh=>simp at hsh
  cases inn
  case' false =>
   refine DrawGo.intro (by kernel_rfl) ?_
   simp [go_sem]
   refine CallStep.pure (needU true 46 n).toP (wkR n true 46) ?_
   simp [go_sem]
  case' true =>
   have hT':timeOfL c n.op n.name=false:=by simpa using hT
   rw [hT'] at htm
   refine DrawGo.intro (by kernel_rfl) ?_
   simp [go_sem]
   refine CallStep.pure htm (.cons (.hf (hf_eCk c)) (.cons (.hf (hf_eNd n)) .nil)) ?_
   simp [go_sem]
   refine CallStep.pure (needU true 46 n).toP (wkR n true 46) ?_
   simp [go_sem]
  all_goals
   by_cases h1:n.op=1
   ·rw [if_pos h1] at hE
    rw [hE] at hnm
    simp [go_sem,h1]
    cases E with
    |error e =>
     refine CallStep.pans hnm hwc ?_
     simp [go_sem]
     exact .hf _ (hf_stopV _ _)
    |ok ko =>
     refine CallStep.pure hnm.toP hwc ?_
     cases ko with
     |none=>simp [go_sem];exact .hf _ hfKn
     |some k=>simp [go_sem];exact .hf _ (hfK2 _ _)
   rw [if_neg h1] at hE
   by_cases h47:n.op=47
   ·rw [if_pos h47] at hE
    have hE:callK c s n=E:=hE
    have hcl:=hcl h47
    rw [hE] at hcl
    simp [go_sem,h47]
    cases E with
    |error e =>
     refine CallStep.pans hcl hwc ?_
     simp [go_sem]
     exact .hf _ (hf_stopV _ _)
    |ok ko =>
     obtain rfl:=callK_none hE
     refine CallStep.pure hcl.toP hwc ?_
     simp [go_sem]
     exact .hf _ hfKn
   rw [if_neg h47] at hE
   by_cases hb:n.op=15∨n.op=45∨n.op=46
   ·rw [if_pos hb] at hE
    obtain ⟨a,f,hkk,ha⟩:=hbinder hb
    rw [hkk] at hE
    have iha:∀ b r,exam c s b a=r→SoundX Tryz.prog 42 [eCk c,aSc s,eNd a,aB b] (endK r):=fun b r h=>h ▸ ih a (by rw [hkk];simp) s hs b
    have ihf:∀ s',ScOk c.ts.sorts.length s'→∀ b r,exam c s' b f=r→SoundX Tryz.prog 42 [eCk c,aSc s',eNd f,aB b] (endK r):=fun s' hs' b r h=>h ▸ ih f (by rw [hkk];simp) s' hs' b
    have hoka:=exam_ok hc (szN a) a s
    have hwa:=hw.kid (k:=a) (by rw [hkk];simp)
    rcases hb with h | h | h
    all_goals
     simp [go_sem,h,hkk,cNd_ones]
     simp only [h,examB,examL] at hE
     simp at hE
     split at hE
     ·rename_i e hx
      have hi:=iha _ _ hx
      subst hE
      refine CallStep.pans hi (hwe _ _ _) ?_
      simp [go_sem]
      exact .hf _ (hf_stopV _ _)
     ·rename_i hx
      obtain ⟨q,hq,_⟩:=hoka _ _ (Nat.le_refl _) hwa hs hx ha
      exact absurd hq (by simp)
     ·rename_i k hx
      have hi:=iha _ _ hx
      obtain ⟨q,hq,hqk⟩:=hoka _ _ (Nat.le_refl _) hwa hs hx ha
      simp only [Option.some.injEq] at hq
      subst hq
      refine CallStep.pure hi.toP (hwe _ _ _) ?_
      by_cases har:k.ar=1
      ·rw [if_pos har] at hE
       obtain ⟨ka,kt⟩:=k
       obtain rfl:ka=1:=har
       simp [go_sem]
       refine CallStep.pure (needU true 42 n).toP (wkR n true 42) ?_
       simp [go_sem]
       have hs2:ScOk c.ts.sorts.length ((n.name,⟨1,kt⟩) :: s):=fun v hv=>by
        rcases List.mem_cons.1 hv with rfl | hv
        ·exact ⟨hqk,rfl⟩
        ·exact hs v hv
       have hi2:=ihf _ hs2
       refine DrawGo.tail 12 (by kernel_rfl) ?_
       simp [go_sem,h,hkk,cNd_ones]
       split at hE
       ·rename_i e hx2
        split at hx2
        ·rename_i e' hx3
         simp only [Except.error.injEq] at hx2
         subst hx2
         subst hE
         have hi3:=hi2 _ _ hx3
         refine CallStep.pans hi3 (hwe ((n.name,⟨1,kt⟩) :: s) _ _) ?_
         simp [go_sem]
         exact .hf _ (hf_stopV _ _)
        ·exact absurd hx2 (by simp)
       ·rename_i l hx2
        split at hx2
        ·exact absurd hx2 (by simp)
        ·rename_i a' hx3
         have hi3:=hi2 _ _ hx3
         subst hE
         refine CallStep.pure hi3.toP (hwe ((n.name,⟨1,kt⟩) :: s) _ _) ?_
         simp [go_sem]
         exact .hf _ (hfK2 _ _)
      ·rw [if_neg har] at hE
       subst hE
       simp [go_sem,har]
       refine CallStep.pans (needU false 42 n) (wkR n false 42) ?_
       simp [go_sem]
       exact .hf _ (hf_stopV _ _)
   ·rw [if_neg hb] at hE
    simp only [not_or] at hb
    obtain ⟨b1,b2,b3⟩:=hb
    simp [go_sem,h1,h47,b1,b2,b3]
    have hkids:=hw.len
    generalize hB:(_||decide (n.op=12)||decide (n.op=13))=B at hE
    by_cases h12:n.op=12
    case' pos=>simp [go_sem,h12]
    case' neg =>
     by_cases h13:n.op=13
     case' pos=>simp [go_sem,h12,h13]
     case' neg=>simp [go_sem,h12,h13]
    all_goals
     refine LoopGo.upK n.kids.length (fun k st=>∃ acc:List (Option Kd),acc.length=k∧st.tm 0=eCk c∧st.tm 1=aSc s∧st.tm 3=aB B∧st.tm 6 = .ip (cNd n)∧st.tm 8 = .ptr 0 0∧st.tm 79=lNd n.kids∧st.tm 80=aI n.kids.length∧st.tm 81=aI k∧st.mu[0]?=some (.arr [aI 0,.sc (.map none)])∧OwnF 1 st.mu 2 (st.tm 10) (acc.map cKo) ∧
      examL c s B n.kids=(match examL c s B (n.kids.drop k) with | .error e => .error e | .ok l => .ok (acc++l))) ?_ ?_
     ·refine ⟨[],rfl,by simp [go_sem],by simp [go_sem],?_,by simp [go_sem],by simp [go_sem],by simp [go_sem],by simp [go_sem],by simp [go_sem],by simp [go_sem],?_,?_⟩
      ·rw [←hB];simp [go_sem,h12];try simp [h13]
      ·simp [go_sem];exact OwnF.nil (by simp)
      ·simp only [List.drop_zero,List.nil_append]
       cases examL c s B n.kids<;>rfl
     ·rintro k st hk ⟨acc,hl,e0,e1,e3,e6,e8,e79,e80,e81,m0,ho,hE2⟩
      by_cases hkl':k=n.kids.length
      ·rw [hkl',List.drop_length] at hE2
       simp only [examL,List.append_nil] at hE2
       rw [hE2] at hE
       simp only at hE
       simp [go_sem,e0,e1,e3,e6,e8,e79,e80,e81,hkl']
       have hap:ApOk n.op acc:=(apOk_of hc.ts.ns hw (by rw [hl,hkl']) (fun i k' a hi ha hkd=>exam_ok hc (szN k') k' s B a (Nat.le_refl _) (hw.kid (List.mem_of_getElem? hi)) hs ((examL_ok hE2).2 i k' a hi ha) hkd)).1
       have hap2:=applyU c hc false n acc hap
       rw [hE] at hap2
       have hrf:∀ r,r∈acc.map cKo→∀ c,c∈r→HF c:=fun r hr c hcc=>by
        obtain ⟨q,_,rfl⟩:=List.mem_map.1 hr
        exact hf_cKo q c hcc
       have hrw:rowsOk 2 (acc.map cKo):=fun r hr=>by
        obtain ⟨q,_,rfl⟩:=List.mem_map.1 hr
        exact (cKo_row q).1
       have g0:(cutM (fun i=>!decide (1≤i)) st.mu 0)[0]?=some (.arr [aI 0,.sc (.map none)]):=by rw [cutM_get,m0];simp
       refine CallStep.eff0 (Sound.freeze (args1:=[eCk c,eNd n,.lst false (acc.map cKo)]) (fun j=>decide (1≤j)) ⟨.inl rfl,.inl rfl,.inr (ownF_rdCut ho hrw hrf),trivial⟩ (hap2.toSound _ (.cons (.hf (hf_eCk c)) (.cons (.hf (hf_eNd n)) (.cons (.hf (HF.lst hrf)) .nil))))) ?_ ?_
       ·rintro r m ⟨hv,rfl⟩
        have hv:AEnd.ret r=endK E:=hv
        cases E with
        |error e=>exact absurd hv (by simp [go_sem])
        |ok q =>
         simp [go_sem] at hv
         subst hv
         generalize cutM (fun i=>!decide (1≤i)) st.mu 0=M at g0
         have hmz:0<M.length:=(List.getElem?_eq_some_iff.1 g0).1
         have hset:∀ c,(M.set 0 c)[0]?=some c:=fun c=>List.getElem?_set_self hmz
         cases q with
         |none=>simp [go_sem,e8,g0,hset];exact .hf _ hfKn
         |some k=>simp [go_sem,e8,g0,hset];exact .hf _ (hfK2 _ _)
       ·rintro r m ⟨hv,rfl⟩
        have hv:AEnd.pan r=endK E:=hv
        cases E with
        |ok q=>exact absurd hv (by simp [go_sem])
        |error e =>
         simp [go_sem] at hv
         subst hv
         simp [go_sem]
         exact .hf _ (hf_stopV _ _)
      ·have hlt:k<n.kids.length:=by omega
       have w1:IntKind.i64.wrap ((k:Int)+1)=(k:Int)+1:=wrap_i64 (by omega) (by omega)
       rw [List.drop_eq_getElem_cons hlt] at hE2
       simp only [examL] at hE2
       have hi:=ih n.kids[k] (List.getElem_mem hlt) s hs B
       simp [go_sem,e0,e1,e3,e6,e8,e79,e80,e81,hlt,cNd_ones]
       cases hx:exam c s B n.kids[k] with
       |error e =>
        rw [hx] at hi hE2
        simp only at hE2
        rw [hE2] at hE
        simp only at hE
        subst hE
        refine CallStep.pans hi (hwe s n.kids[k] B) ?_
        simp [go_sem]
        exact .hf _ (hf_stopV _ _)
       |ok ko =>
        rw [hx] at hi hE2
        simp only at hE2
        refine CallStep.pure hi.toP (hwe s n.kids[k] B) ?_
        have hko:=cKo_row ko
        rw [List.all_eq_true] at hko
        simp [go_sem]
        rw [if_pos hko]
        simp [go_sem]
        refine appKo (xs:=acc) (k:=ko) (lo:=1) ⟨own_push ho.1 _,ho.2.1,by have:=ho.2.2;simp⟩ (by omega) fun av mu' ho' hm'=>?_
        simp [go_sem,e0,e1,e3,e6,e8,e79,e80,e81,w1]
        refine ⟨hlt,Keep.mk' ?_⟩
        refine ⟨acc++[ko],by simp [hl],by simp [go_sem,e0],by simp [go_sem,e1],by simp [go_sem,e3],by simp [go_sem,e6],by simp [go_sem,e8],by simp [go_sem,e79],by simp [go_sem,e80],by simp [go_sem],?_,by simpa [go_sem] using ho',?_⟩
        ·simp only [put_mu]
         rw [hm' 0 (by omega),List.getElem?_append_left (by have:=ho.2.2;omega)]
         exact m0
        ·rw [hE2]
         cases examL c s B (n.kids.drop (k+1)) with
         |error e=>rfl
         |ok l=>simp
end Go.Proofs.YtcfopdccdeeleaaGreatDoor.Y13

namespace Go.Proofs.YtcfopdccdeeleaaGreatDoor.Y14
open Go Go.Ev Go.Proofs Go.Proofs.YtcfopdccdeeleaaGreatDoor YM YS YF P1 P2 Y1 Y2 Y3 Y4 Y5 Y6 Y7 Y8 Y9 Y10 Y11 Y12 Y13
structure okEnv (ns:Nat) (env:List (ByteArray×Int)):Prop where
 len:env.length≤1000000
 r:∀ p,p∈env→0≤p.2∧p.2<ns
theorem scOk_bind {ns:Nat} {env:List (ByteArray×Int)} (h:okEnv ns env):ScOk ns (bindL env):=by
 have:∀(l:List (ByteArray×Int)) (s:Scp),(∀ p,p∈l→0≤p.2∧p.2<(ns:Int))→ScOk ns s→ScOk ns (l.foldl (fun s p=>(p.1,kOf [p.2]) :: s) s):=by
  intro l
  induction l with
  |nil=>intro s _ hs;exact hs
  |cons a l ih =>
   intro s hl hs
   refine ih _ (fun p hp=>hl p (List.mem_cons_of_mem _ hp)) fun v hv=>?_
   rcases List.mem_cons.1 hv with rfl | hv
   ·exact ⟨okKd_kOf (by simp) (by simp) (fun x hx=>by rw [List.mem_singleton] at hx;subst hx;exact hl a (List.mem_cons_self ..)),rfl⟩
   ·exact hs v hv
 exact this env [] h.r fun v hv=>absurd hv List.not_mem_nil
theorem formula1 (c:Ck) (hc:okCk c) (n:Nd) (hw:WfN n) (env:List (ByteArray×Int)) (he:okEnv c.ts.sorts.length env) :
  SoundX Tryz.prog 108 [.ip (cNd n),.ip [eCk c],.ip [lPm env]] (if 30≤n.op then (match exam c (bindL env) false n with | .ok _ => .ret (.tup []) | .error e => .pan (stopV e.1 e.2)) else .pan (stopV 43 n.pos)):=by
 refine SoundG.of_sound ?_
 refine Sound.of_awp Tryz.call108 Tryz.func108 rfl (Nat.le_of_ble_eq_true (by kernel_rfl)) (by kernel_rfl) (pl:={}) ?_
 have hx:=examineU c hc (szN n) n (Nat.le_refl _) hw (bindL env) (scOk_bind he) false
 have hwe:WKs [eCk c,aSc (bindL env),eNd n,aB false] [eCk c,aSc (bindL env),eNd n,aB false] := .cons (.hf (hf_eCk c)) (.cons (.hf (hf_aSc _)) (.cons (.hf (hf_eNd n)) (.cons (.hf (HF.sc _)) .nil)))
 by_cases h:30≤n.op
 ·rw [if_pos h]
  simp [go_sem,h]
  refine CallStep.pure (needU true 43 n).toP (wkR n true 43) ?_
  simp [go_sem]
  refine DrawGo.tail 4 (by kernel_rfl) ?_
  simp [go_sem]
  refine CallStep.pure (bindU _ hc.ts.ns env he.len he.r) (.cons (.hf (hf_lPm env)) .nil) ?_
  simp [go_sem]
  cases hE:exam c (bindL env) false n with
  |error e =>
   rw [hE] at hx
   refine CallStep.pans hx hwe ?_
   simp [go_sem]
   exact .hf _ (hf_stopV _ _)
  |ok k =>
   rw [hE] at hx
   refine CallStep.pure hx.toP hwe ?_
   simp [go_sem]
   exact .hf _ (HF.tup (by simp))
 ·rw [if_neg h]
  simp [go_sem,h]
  refine CallStep.pans (needU false 43 n) (wkR n false 43) ?_
  simp [go_sem]
  exact .hf _ (hf_stopV _ _)
theorem formulaU (c:Ck) (hc:okCk c) (n:Nd) (hw:WfN n) (env:List (ByteArray×Int)) (he:okEnv c.ts.sorts.length env):SoundP Tryz.prog 61 [eCk c,lPm env,eNd n] (.agg [aI (formK c env n).1,aI (formK c env n).2]):=by
 refine SoundX.toP ?_
 refine SoundG.of_sound ?_
 refine Sound.of_awp Tryz.call61 Tryz.func61 rfl (Nat.le_of_ble_eq_true (by kernel_rfl)) (by kernel_rfl) (pl:={}) ?_
 simp [go_sem]
 have hcap:WKs [.ip (cNd n),.ip [eCk c],.ip [lPm env]] [.ip (cNd n),.ip [eCk c],.ip [lPm env]] := .cons (.hf (HF.ip (hf_cNd n))) (.cons (.hf (HF.ip (by simp;exact hf_eCk c))) (.cons (.hf (HF.ip (by simp;exact hf_lPm env))) .nil))
 have h1:=(formula1 c hc n hw env he).toSound ([.arr [aI 0,aI 0]]++[.dead]) hcap
 refine CallStep.eff0 (caughtU (mu:=[.arr [aI 0,aI 0]]) h1 ?_) ?_ ?_
 ·rintro v m ⟨hv,_⟩
  have hv:AEnd.pan v=_:=hv
  split at hv
  ·split at hv
   ·exact absurd hv (by simp)
   ·cases hv;exact ⟨_,_,rfl⟩
  ·cases hv;exact ⟨_,_,rfl⟩
 ·rintro r m ⟨m',x,⟨l,rfl⟩,⟨r',⟨hv,rfl⟩,hr⟩ | ⟨er,p,⟨hv,rfl⟩,hr⟩⟩
  ·have hv:AEnd.ret r'=_:=hv
   cases hr
   have hf:formK c env n=(0,0):=by
    unfold formK dgOf
    split at hv
    ·rename_i h
     rw [if_pos h]
     split at hv
     ·rename_i h2;first | (rw [h2];done) | rfl
     ·cases hv
    ·cases hv
   rw [hf]
   simp [go_sem]
   exact .hf _ (HF.agg fun c hc=>by simp at hc;rcases hc with rfl | rfl<;>exact HF.sc _)
  ·have hv:AEnd.pan (stopV er p)=_:=hv
   cases hr
   have hf:formK c env n=(er,p):=by
    unfold formK dgOf
    split at hv
    ·rename_i h
     rw [if_pos h]
     split at hv
     ·cases hv
     ·rename_i e h2;(try rw [h2]);cases hv;rfl
    ·rename_i h
     rw [if_neg h]
     cases hv;rfl
   rw [hf]
   simp [go_sem]
   exact .hf _ (HF.agg fun c hc=>by simp at hc;rcases hc with rfl | rfl<;>exact HF.sc _)
 ·rintro r m ⟨m',x,⟨l,rfl⟩,⟨r',⟨hv,rfl⟩,hr⟩ | ⟨er,p,⟨hv,rfl⟩,hr⟩⟩<;>cases hr
theorem small_of {p:Pd} (h:WfN p.body):Small p.body:=h.small
theorem checkFormulaU (ts:TS) (h:okTS ts) (hp:∀ p,p∈ts.preds→WfN p.body) (n:Nd) (hw:WfN n) (env:List (ByteArray×Int)) (he:okEnv ts.sorts.length env):SoundP Tryz.prog 20 [eTS ts,lPm env,eNd n] (.agg [aI (checkF ts env n).1,aI (checkF ts env n).2]):=by
 refine SoundP.of_sound (Sound.of_awp Tryz.call20 Tryz.func20 rfl (Nat.le_of_ble_eq_true (by kernel_rfl)) (by kernel_rfl) (pl:={}) ?_)
 simp [go_sem]
 refine DrawGo.intro (by kernel_rfl) ?_
 simp [go_sem]
 refine CallStep.pure (newCheckerU ts h (fun p hq=>(hp p hq).small) _ (Nat.le_refl _)) (.cons (.hf (hf_eTS ts)) (.cons (.hf (HF.sc _)) .nil)) ?_
 simp [go_sem]
 refine CallStep.pure (formulaU _ (okCk_mk h (Nat.le_refl _)) n hw env he) (.cons (.hf (hf_eCk _)) (.cons (.hf (hf_lPm env)) (.cons (.hf (hf_eNd n)) .nil))) ?_
 simp [go_sem]
 exact .hf _ (HF.agg fun c hc=>by simp at hc;rcases hc with rfl | rfl<;>exact HF.sc _)
end Go.Proofs.YtcfopdccdeeleaaGreatDoor.Y14


namespace Go.Proofs.YtcfopdccdeeleaaGreatDoor.Y15
open Go Go.Ev Go.Proofs Go.Proofs.YtcfopdccdeeleaaGreatDoor YM YS YF P1 P2 Y1 Y2 Y3 Y4 Y5 Y6 Y7 Y8 Y9 Y10 Y11 Y12 Y13 Y14
def repL {α:Type} (eqv:α→α→Bool) (l:List α):List Bool:=(List.range l.length).map fun i=>match l[i]? with | some x=>(l.take i).any fun y=>eqv x y | none=>false
theorem repL_len {α:Type} (eqv:α→α→Bool) (l:List α):(repL eqv l).length=l.length:=by simp [repL]
theorem repL_get {α:Type} (eqv:α→α→Bool) (l:List α) {i:Nat} (h:i<l.length):(repL eqv l)[i]?=some ((l.take i).any fun y=>eqv l[i] y):=by
 simp [repL,h]
abbrev lB (l:List Bool):AV := .lst false (l.map fun b=>[aB b])
theorem rd_bools {xs:List Bool} {n:Nat} (hn:xs.length=n) {c:List AV} {rest:Mu} (hc:c=(xs.take n).map aB):Rd (.arr c :: rest) (.sl 0 1 0 n) (lB xs):=by
 subst hc
 refine .sl 0 1 0 n _ _ rfl (by simp [hn]) (by simp [hn]) (fun r hr=>?_) fun k x y hx hy=>?_
 ·obtain ⟨b,_,rfl⟩:=List.mem_map.1 hr;rfl
 ·have e:(xs.map fun b=>[aB b]).flatten=xs.map aB:=by
   clear hx hy hn
   induction xs with
   |nil=>rfl
   |cons a l ih=>simp [ih]
  rw [e] at hy
  rw [Nat.zero_add,List.take_of_length_le (by omega)] at hx
  rw [hx] at hy
  cases hy
  obtain ⟨b,_,rfl⟩:=List.mem_map.1 (List.mem_of_getElem? hx)
  exact .hf _ (HF.sc _)
theorem bools_set {xs:List Bool} {n k:Nat} (hn:xs.length=n) (hk:k<n) {b:Bool} (hb:xs[k]?=some b):((xs.take k).map aB++List.replicate (n-k) (aB false)).set k (aB b)=(xs.take (k+1)).map aB++List.replicate (n-(k+1)) (aB false):=by
 apply List.ext_getElem?
 intro i
 rw [List.getElem?_set]
 by_cases h:k=i
 ·subst h
  rw [if_pos rfl,if_pos (by simp;omega),List.getElem?_append_left (by simp;omega),List.getElem?_map,List.getElem?_take,if_pos (by omega),hb]
  rfl
 ·rw [if_neg h]
  by_cases h1:i<k
  ·rw [List.getElem?_append_left (by simp;omega),List.getElem?_append_left (by simp;omega),List.getElem?_map,List.getElem?_map,List.getElem?_take,List.getElem?_take,if_pos (by omega),if_pos (by omega)]
  ·rw [List.getElem?_append_right (by simp;omega),List.getElem?_append_right (by simp;omega),List.getElem?_replicate,List.getElem?_replicate]
   simp only [List.length_map,List.length_take]
   by_cases h2:i<n
   ·rw [if_pos (by omega),if_pos (by omega)]
   ·rw [if_neg (by omega),if_neg (by omega)]
theorem hf_fnc (g:FuncId):HF (.ip [.fn (.func g) [] []]):=HF.ip fun c hc=>by
 rw [List.mem_singleton] at hc;subst hc
 exact HF.fn (fun c hc=>by simp at hc) (fun c hc=>by simp at hc)
theorem eq3U (x y:ByteArray×Bool):SoundP Tryz.prog 53 [.agg (cSort x),.agg (cSort y)] (aB (decide (x.1=y.1))):=by
 refine SoundP.of_sound (Sound.of_awp Tryz.call53 Tryz.func53 rfl (Nat.le_of_ble_eq_true (by kernel_rfl)) (by kernel_rfl) (pl:={}) ?_)
 obtain ⟨a,b⟩:=x
 obtain ⟨c,d⟩:=y
 by_cases h:a=c
 ·subst h
  simp [go_sem]
  exact .hf _ (HF.sc _)
 ·simp [go_sem,h,str_ne h]
  exact .hf _ (HF.sc _)
@[go_sem] theorem put_cFa (a b c d e f:AV) (s:AV) (n:Nd):putCells [a,b,c,d,e,f] 0 (s :: cNd n)=s :: cNd n:=by
 rw [cNd_eq];simp [putCells]
theorem rep1SoU (g:FuncId) (eqv:ByteArray×Bool→ByteArray×Bool→Bool) (x y:ByteArray×Bool) (hg:SoundP Tryz.prog g [.agg (cSort x),.agg (cSort y)] (aB (eqv x y))):SoundP Tryz.prog 101 [.agg (cSort y),.ip [.fn (.func g) [] []],.ip (cSort x)] (aB (eqv x y)):=by
 refine SoundP.of_sound (Sound.of_awp Tryz.call101 Tryz.func101 rfl (Nat.le_of_ble_eq_true (by kernel_rfl)) (by kernel_rfl) (pl:={}) ?_)
 simp [go_sem]
 refine CallStep.pure hg (.cons (.hf (HF.agg (hf_cSo x))) (.cons (.hf (HF.agg (hf_cSo y))) .nil)) ?_
 simp [go_sem]
 exact .hf _ (HF.sc _)
theorem repSoU (g:FuncId) (eqv:ByteArray×Bool→ByteArray×Bool→Bool) (l:List (ByteArray×Bool)) (hg:∀ x y,x∈l→y∈l→SoundP Tryz.prog g [.agg (cSort x),.agg (cSort y)] (aB (eqv x y))) (hl:l.length≤1000):SoundP Tryz.prog 52 [lSo l,.fn (.func g) [] []] (lB (repL eqv l)):=by
 refine SoundP.of_sound (Sound.of_awp Tryz.call52 Tryz.func52 rfl (Nat.le_of_ble_eq_true (by kernel_rfl)) (by kernel_rfl) (pl:={}) ?_)
 have hl2:(l.length:Int)≤4294967296:=by omega
 simp [go_sem,hl2]
 refine LoopGo.upK l.length (fun k st=>∃ rest,st.tm 0=lSo l∧st.tm 3 = .ip [.fn (.func g) [] []]∧st.tm 5 = .sl 0 1 0 l.length∧st.tm 11=lSo l∧st.tm 12=aI l.length∧st.tm 13=aI k∧st.mu = .arr (((repL eqv l).take k).map aB++List.replicate (l.length-k) (aB false)) :: rest) ?_ ?_
 ·exact ⟨[],by simp [go_sem],by simp [go_sem],by simp [go_sem],by simp [go_sem],by simp [go_sem],by simp [go_sem],by simp [go_sem]⟩
 ·rintro k st hk ⟨rest,e0,e3,e5,e11,e12,e13,hm⟩
  have hrl:=repL_len eqv l
  by_cases hkl:k=l.length
  ·subst hkl
   simp [go_sem,e0,e3,e5,e11,e12,e13,hm]
   exact rd_bools hrl List.map_take.symm
  ·have hlt:k<l.length:=by omega
   have w1:IntKind.i64.wrap ((k:Int)+1)=(k:Int)+1:=wrap_i64 (by omega) (by omega)
   have hsz:rowsOk 2 (l.map cSort):=fun r hr=>by
    obtain ⟨q,_,rfl⟩:=List.mem_map.1 hr
    exact (cSort_row q).1
   have hcc:(cSort l[k]).length=2:=(cSort_row _).1
   simp [go_sem,e0,e3,e5,e11,e12,e13,hm,hlt]
   refine ⟨⟨_,_,⟨rfl,rfl⟩,hsz⟩,?_⟩
   rw [if_pos (by omega)]
   simp [go_sem,e3]
   have hF:FnOkP Tryz.prog (.fn (.func 101) [] [.ip [.fn (.func g) [] []],.ip (cSort l[k])]) (l.take k) (fun x => .agg (cSort x)) (eqv l[k]):=
    ⟨_,_,_,rfl,fun y hy=>⟨_,rep1SoU g eqv l[k] y (hg l[k] y (List.getElem_mem hlt) (List.mem_of_mem_take hy)),.cons (.hf (HF.agg (hf_cSo y))) (.cons (.hf (hf_fnc g)) (.cons (.hf (HF.ip (hf_cSo _))) .nil))⟩⟩
   have hhF:HF (.fn (.func 101) [] [.ip [.fn (.func g) [] []],.ip (cSort l[k])]):=HF.fn (fun c hc=>by simp at hc) fun c hc=>by
    simp only [List.mem_cons,List.not_mem_nil,or_false] at hc
    rcases hc with rfl | rfl
    ·exact hf_fnc g
    ·exact HF.ip (hf_cSo _)
   have hl3:=hf_lSo (l.take k)
   refine CallStep.eff0 (Sound.freeze (args1:=[.lst false ((l.take k).map cSort),.fn (.func 101) [] [.ip [.fn (.func g) [] []],.ip (cSort l[k])]]) (fun j=>decide (j=rest.length+1)) ⟨.inl (by simp),.inr ?_,trivial⟩ ((hasSo false (l.take k) _ _ hF hhF hl3 (by simp;omega)).toSound _ (.cons (.hf hl3) (.cons (.hf hhF) .nil)))) ?_ ?_
   ·refine .fn _ _ _ _ _ rfl rfl (fun k x y hx=>by simp at hx) fun j x y hx hy=>?_
    match j,hx,hy with
    | 0,hx,hy =>
     simp at hx hy;subst hx;subst hy
     exact .hf _ (hf_fnc g)
    | 1,hx,hy =>
     simp at hx hy;subst hx;subst hy
     exact .ptr _ 0 (cSort l[k]) _ (by rw [cutM_get];simp) (by simp) fun i x y hx hy=>by
      rw [Nat.zero_add] at hx
      rw [hx] at hy;cases hy
      exact .hf _ (hf_cSo _ _ (List.mem_of_getElem? hx))
    |j+2,hx,hy=>simp at hx
   ·rintro r m ⟨e,rfl⟩
    cases e
    have hAs:=bools_set hrl hlt (repL_get eqv l hlt)
    simp only [List.map_take] at hAs
    generalize hA:List.take k (List.map aB (repL eqv l))++List.replicate (l.length-k) (aB false)=A at hAs
    have hAl:A.length=l.length:=by rw [←hA];simp [hrl];omega
    have hkA:k+1≤A.length:=by omega
    simp [go_sem,cutM,hlt,hkA,e0,e3,e5,e11,e12,e13,w1]
    refine Keep.mk' ?_
    refine ⟨cutM (fun i=>!decide (i=rest.length+1)) (rest++[.arr (cSort l[k])]) 1,by simp [go_sem,e0],by simp [go_sem,e3],by simp [go_sem,e5],by simp [go_sem,e11],by simp [go_sem,e12],by simp [go_sem],?_⟩
    simp only [put_mu,List.map_take]
    rw [←hAs]
   ·rintro r m ⟨e,_⟩;cases e
theorem rep1FlU (g:FuncId) (eqv:Fld→Fld→Bool) (x y:Fld) (hg:SoundP Tryz.prog g [.agg (cField x),.agg (cField y)] (aB (eqv x y))):SoundP Tryz.prog 103 [.agg (cField y),.ip [.fn (.func g) [] []],.ip (cField x)] (aB (eqv x y)):=by
 refine SoundP.of_sound (Sound.of_awp Tryz.call103 Tryz.func103 rfl (Nat.le_of_ble_eq_true (by kernel_rfl)) (by kernel_rfl) (pl:={}) ?_)
 simp [go_sem]
 refine CallStep.pure hg (.cons (.hf (HF.agg (hf_cField x))) (.cons (.hf (HF.agg (hf_cField y))) .nil)) ?_
 simp [go_sem]
 exact .hf _ (HF.sc _)
theorem repFlU (g:FuncId) (eqv:Fld→Fld→Bool) (l:List (Fld)) (hg:∀ x y,x∈l→y∈l→SoundP Tryz.prog g [.agg (cField x),.agg (cField y)] (aB (eqv x y))) (hl:l.length≤1000):SoundP Tryz.prog 54 [lFl l,.fn (.func g) [] []] (lB (repL eqv l)):=by
 refine SoundP.of_sound (Sound.of_awp Tryz.call54 Tryz.func54 rfl (Nat.le_of_ble_eq_true (by kernel_rfl)) (by kernel_rfl) (pl:={}) ?_)
 have hl2:(l.length:Int)≤4294967296:=by omega
 simp [go_sem,hl2]
 refine LoopGo.upK l.length (fun k st=>∃ rest,st.tm 0=lFl l∧st.tm 3 = .ip [.fn (.func g) [] []]∧st.tm 5 = .sl 0 1 0 l.length∧st.tm 11=lFl l∧st.tm 12=aI l.length∧st.tm 13=aI k∧st.mu = .arr (((repL eqv l).take k).map aB++List.replicate (l.length-k) (aB false)) :: rest) ?_ ?_
 ·exact ⟨[],by simp [go_sem],by simp [go_sem],by simp [go_sem],by simp [go_sem],by simp [go_sem],by simp [go_sem],by simp [go_sem]⟩
 ·rintro k st hk ⟨rest,e0,e3,e5,e11,e12,e13,hm⟩
  have hrl:=repL_len eqv l
  by_cases hkl:k=l.length
  ·subst hkl
   simp [go_sem,e0,e3,e5,e11,e12,e13,hm]
   exact rd_bools hrl List.map_take.symm
  ·have hlt:k<l.length:=by omega
   have w1:IntKind.i64.wrap ((k:Int)+1)=(k:Int)+1:=wrap_i64 (by omega) (by omega)
   have hsz:rowsOk 3 (l.map cField):=fun r hr=>by
    obtain ⟨q,_,rfl⟩:=List.mem_map.1 hr
    exact (cField_row q).1
   have hcc:(cField l[k]).length=3:=(cField_row _).1
   simp [go_sem,e0,e3,e5,e11,e12,e13,hm,hlt]
   refine ⟨⟨_,_,⟨rfl,rfl⟩,hsz⟩,?_⟩
   rw [if_pos (by omega)]
   simp [go_sem,e3]
   have hF:FnOkP Tryz.prog (.fn (.func 103) [] [.ip [.fn (.func g) [] []],.ip (cField l[k])]) (l.take k) (fun x => .agg (cField x)) (eqv l[k]):=
    ⟨_,_,_,rfl,fun y hy=>⟨_,rep1FlU g eqv l[k] y (hg l[k] y (List.getElem_mem hlt) (List.mem_of_mem_take hy)),.cons (.hf (HF.agg (hf_cField y))) (.cons (.hf (hf_fnc g)) (.cons (.hf (HF.ip (hf_cField _))) .nil))⟩⟩
   have hhF:HF (.fn (.func 103) [] [.ip [.fn (.func g) [] []],.ip (cField l[k])]):=HF.fn (fun c hc=>by simp at hc) fun c hc=>by
    simp only [List.mem_cons,List.not_mem_nil,or_false] at hc
    rcases hc with rfl | rfl
    ·exact hf_fnc g
    ·exact HF.ip (hf_cField _)
   have hl3:=hf_lFl (l.take k)
   refine CallStep.eff0 (Sound.freeze (args1:=[.lst false ((l.take k).map cField),.fn (.func 103) [] [.ip [.fn (.func g) [] []],.ip (cField l[k])]]) (fun j=>decide (j=rest.length+1)) ⟨.inl (by simp),.inr ?_,trivial⟩ ((hasFl false (l.take k) _ _ hF hhF hl3 (by simp;omega)).toSound _ (.cons (.hf hl3) (.cons (.hf hhF) .nil)))) ?_ ?_
   ·refine .fn _ _ _ _ _ rfl rfl (fun k x y hx=>by simp at hx) fun j x y hx hy=>?_
    match j,hx,hy with
    | 0,hx,hy =>
     simp at hx hy;subst hx;subst hy
     exact .hf _ (hf_fnc g)
    | 1,hx,hy =>
     simp at hx hy;subst hx;subst hy
     exact .ptr _ 0 (cField l[k]) _ (by rw [cutM_get];simp) (by simp) fun i x y hx hy=>by
      rw [Nat.zero_add] at hx
      rw [hx] at hy;cases hy
      exact .hf _ (hf_cField _ _ (List.mem_of_getElem? hx))
    |j+2,hx,hy=>simp at hx
   ·rintro r m ⟨e,rfl⟩
    cases e
    have hAs:=bools_set hrl hlt (repL_get eqv l hlt)
    simp only [List.map_take] at hAs
    generalize hA:List.take k (List.map aB (repL eqv l))++List.replicate (l.length-k) (aB false)=A at hAs
    have hAl:A.length=l.length:=by rw [←hA];simp [hrl];omega
    have hkA:k+1≤A.length:=by omega
    simp [go_sem,cutM,hlt,hkA,e0,e3,e5,e11,e12,e13,w1]
    refine Keep.mk' ?_
    refine ⟨cutM (fun i=>!decide (i=rest.length+1)) (rest++[.arr (cField l[k])]) 1,by simp [go_sem,e0],by simp [go_sem,e3],by simp [go_sem,e5],by simp [go_sem,e11],by simp [go_sem,e12],by simp [go_sem],?_⟩
    simp only [put_mu,List.map_take]
    rw [←hAs]
   ·rintro r m ⟨e,_⟩;cases e
theorem rep1PdU (g:FuncId) (eqv:Pd→Pd→Bool) (x y:Pd) (hg:SoundP Tryz.prog g [.agg (cPd x),.agg (cPd y)] (aB (eqv x y))):SoundP Tryz.prog 105 [.agg (cPd y),.ip [.fn (.func g) [] []],.ip (cPd x)] (aB (eqv x y)):=by
 refine SoundP.of_sound (Sound.of_awp Tryz.call105 Tryz.func105 rfl (Nat.le_of_ble_eq_true (by kernel_rfl)) (by kernel_rfl) (pl:={}) ?_)
 simp [go_sem]
 refine CallStep.pure hg (.cons (.hf (HF.agg (hf_cPd x))) (.cons (.hf (HF.agg (hf_cPd y))) .nil)) ?_
 simp [go_sem]
 exact .hf _ (HF.sc _)
theorem repPdU (g:FuncId) (eqv:Pd→Pd→Bool) (l:List (Pd)) (hg:∀ x y,x∈l→y∈l→SoundP Tryz.prog g [.agg (cPd x),.agg (cPd y)] (aB (eqv x y))) (hl:l.length≤1000):SoundP Tryz.prog 57 [lPd l,.fn (.func g) [] []] (lB (repL eqv l)):=by
 refine SoundP.of_sound (Sound.of_awp Tryz.call57 Tryz.func57 rfl (Nat.le_of_ble_eq_true (by kernel_rfl)) (by kernel_rfl) (pl:={}) ?_)
 have hl2:(l.length:Int)≤4294967296:=by omega
 simp [go_sem,hl2]
 refine LoopGo.upK l.length (fun k st=>∃ rest,st.tm 0=lPd l∧st.tm 3 = .ip [.fn (.func g) [] []]∧st.tm 5 = .sl 0 1 0 l.length∧st.tm 11=lPd l∧st.tm 12=aI l.length∧st.tm 13=aI k∧st.mu = .arr (((repL eqv l).take k).map aB++List.replicate (l.length-k) (aB false)) :: rest) ?_ ?_
 ·exact ⟨[],by simp [go_sem],by simp [go_sem],by simp [go_sem],by simp [go_sem],by simp [go_sem],by simp [go_sem],by simp [go_sem]⟩
 ·rintro k st hk ⟨rest,e0,e3,e5,e11,e12,e13,hm⟩
  have hrl:=repL_len eqv l
  by_cases hkl:k=l.length
  ·subst hkl
   simp [go_sem,e0,e3,e5,e11,e12,e13,hm]
   exact rd_bools hrl List.map_take.symm
  ·have hlt:k<l.length:=by omega
   have w1:IntKind.i64.wrap ((k:Int)+1)=(k:Int)+1:=wrap_i64 (by omega) (by omega)
   have hsz:rowsOk 7 (l.map cPd):=fun r hr=>by
    obtain ⟨q,_,rfl⟩:=List.mem_map.1 hr
    exact (cPd_row q).1
   have hcc:(cPd l[k]).length=7:=(cPd_row _).1
   simp [go_sem,e0,e3,e5,e11,e12,e13,hm,hlt]
   refine ⟨⟨_,_,⟨rfl,rfl⟩,hsz⟩,?_⟩
   rw [if_pos (by omega)]
   simp [go_sem,e3]
   have hF:FnOkP Tryz.prog (.fn (.func 105) [] [.ip [.fn (.func g) [] []],.ip (cPd l[k])]) (l.take k) (fun x => .agg (cPd x)) (eqv l[k]):=
    ⟨_,_,_,rfl,fun y hy=>⟨_,rep1PdU g eqv l[k] y (hg l[k] y (List.getElem_mem hlt) (List.mem_of_mem_take hy)),.cons (.hf (HF.agg (hf_cPd y))) (.cons (.hf (hf_fnc g)) (.cons (.hf (HF.ip (hf_cPd _))) .nil))⟩⟩
   have hhF:HF (.fn (.func 105) [] [.ip [.fn (.func g) [] []],.ip (cPd l[k])]):=HF.fn (fun c hc=>by simp at hc) fun c hc=>by
    simp only [List.mem_cons,List.not_mem_nil,or_false] at hc
    rcases hc with rfl | rfl
    ·exact hf_fnc g
    ·exact HF.ip (hf_cPd _)
   have hl3:=hf_lPd (l.take k)
   refine CallStep.eff0 (Sound.freeze (args1:=[.lst false ((l.take k).map cPd),.fn (.func 105) [] [.ip [.fn (.func g) [] []],.ip (cPd l[k])]]) (fun j=>decide (j=rest.length+1)) ⟨.inl (by simp),.inr ?_,trivial⟩ ((hasPd false (l.take k) _ _ hF hhF hl3 (by simp;omega)).toSound _ (.cons (.hf hl3) (.cons (.hf hhF) .nil)))) ?_ ?_
   ·refine .fn _ _ _ _ _ rfl rfl (fun k x y hx=>by simp at hx) fun j x y hx hy=>?_
    match j,hx,hy with
    | 0,hx,hy =>
     simp at hx hy;subst hx;subst hy
     exact .hf _ (hf_fnc g)
    | 1,hx,hy =>
     simp at hx hy;subst hx;subst hy
     exact .ptr _ 0 (cPd l[k]) _ (by rw [cutM_get];simp) (by simp) fun i x y hx hy=>by
      rw [Nat.zero_add] at hx
      rw [hx] at hy;cases hy
      exact .hf _ (hf_cPd _ _ (List.mem_of_getElem? hx))
    |j+2,hx,hy=>simp at hx
   ·rintro r m ⟨e,rfl⟩
    cases e
    have hAs:=bools_set hrl hlt (repL_get eqv l hlt)
    simp only [List.map_take] at hAs
    generalize hA:List.take k (List.map aB (repL eqv l))++List.replicate (l.length-k) (aB false)=A at hAs
    have hAl:A.length=l.length:=by rw [←hA];simp [hrl];omega
    have hkA:k+1≤A.length:=by omega
    simp [go_sem,cutM,hlt,hkA,e0,e3,e5,e11,e12,e13,w1]
    refine Keep.mk' ?_
    refine ⟨cutM (fun i=>!decide (i=rest.length+1)) (rest++[.arr (cPd l[k])]) 1,by simp [go_sem,e0],by simp [go_sem,e3],by simp [go_sem,e5],by simp [go_sem,e11],by simp [go_sem,e12],by simp [go_sem],?_⟩
    simp only [put_mu,List.map_take]
    rw [←hAs]
   ·rintro r m ⟨e,_⟩;cases e
theorem rep1PmU (g:FuncId) (eqv:ByteArray×Int→ByteArray×Int→Bool) (x y:ByteArray×Int) (hg:SoundP Tryz.prog g [.agg (cPm x),.agg (cPm y)] (aB (eqv x y))):SoundP Tryz.prog 107 [.agg (cPm y),.ip [.fn (.func g) [] []],.ip (cPm x)] (aB (eqv x y)):=by
 refine SoundP.of_sound (Sound.of_awp Tryz.call107 Tryz.func107 rfl (Nat.le_of_ble_eq_true (by kernel_rfl)) (by kernel_rfl) (pl:={}) ?_)
 simp [go_sem]
 refine CallStep.pure hg (.cons (.hf (HF.agg (hf_cPm x))) (.cons (.hf (HF.agg (hf_cPm y))) .nil)) ?_
 simp [go_sem]
 exact .hf _ (HF.sc _)
theorem repPmU (g:FuncId) (eqv:ByteArray×Int→ByteArray×Int→Bool) (l:List (ByteArray×Int)) (hg:∀ x y,x∈l→y∈l→SoundP Tryz.prog g [.agg (cPm x),.agg (cPm y)] (aB (eqv x y))) (hl:l.length≤1000):SoundP Tryz.prog 59 [lPm l,.fn (.func g) [] []] (lB (repL eqv l)):=by
 refine SoundP.of_sound (Sound.of_awp Tryz.call59 Tryz.func59 rfl (Nat.le_of_ble_eq_true (by kernel_rfl)) (by kernel_rfl) (pl:={}) ?_)
 have hl2:(l.length:Int)≤4294967296:=by omega
 simp [go_sem,hl2]
 refine LoopGo.upK l.length (fun k st=>∃ rest,st.tm 0=lPm l∧st.tm 3 = .ip [.fn (.func g) [] []]∧st.tm 5 = .sl 0 1 0 l.length∧st.tm 11=lPm l∧st.tm 12=aI l.length∧st.tm 13=aI k∧st.mu = .arr (((repL eqv l).take k).map aB++List.replicate (l.length-k) (aB false)) :: rest) ?_ ?_
 ·exact ⟨[],by simp [go_sem],by simp [go_sem],by simp [go_sem],by simp [go_sem],by simp [go_sem],by simp [go_sem],by simp [go_sem]⟩
 ·rintro k st hk ⟨rest,e0,e3,e5,e11,e12,e13,hm⟩
  have hrl:=repL_len eqv l
  by_cases hkl:k=l.length
  ·subst hkl
   simp [go_sem,e0,e3,e5,e11,e12,e13,hm]
   exact rd_bools hrl List.map_take.symm
  ·have hlt:k<l.length:=by omega
   have w1:IntKind.i64.wrap ((k:Int)+1)=(k:Int)+1:=wrap_i64 (by omega) (by omega)
   have hsz:rowsOk 2 (l.map cPm):=fun r hr=>by
    obtain ⟨q,_,rfl⟩:=List.mem_map.1 hr
    exact (cPm_row q).1
   have hcc:(cPm l[k]).length=2:=(cPm_row _).1
   simp [go_sem,e0,e3,e5,e11,e12,e13,hm,hlt]
   refine ⟨⟨_,_,⟨rfl,rfl⟩,hsz⟩,?_⟩
   rw [if_pos (by omega)]
   simp [go_sem,e3]
   have hF:FnOkP Tryz.prog (.fn (.func 107) [] [.ip [.fn (.func g) [] []],.ip (cPm l[k])]) (l.take k) (fun x => .agg (cPm x)) (eqv l[k]):=
    ⟨_,_,_,rfl,fun y hy=>⟨_,rep1PmU g eqv l[k] y (hg l[k] y (List.getElem_mem hlt) (List.mem_of_mem_take hy)),.cons (.hf (HF.agg (hf_cPm y))) (.cons (.hf (hf_fnc g)) (.cons (.hf (HF.ip (hf_cPm _))) .nil))⟩⟩
   have hhF:HF (.fn (.func 107) [] [.ip [.fn (.func g) [] []],.ip (cPm l[k])]):=HF.fn (fun c hc=>by simp at hc) fun c hc=>by
    simp only [List.mem_cons,List.not_mem_nil,or_false] at hc
    rcases hc with rfl | rfl
    ·exact hf_fnc g
    ·exact HF.ip (hf_cPm _)
   have hl3:=hf_lPm (l.take k)
   refine CallStep.eff0 (Sound.freeze (args1:=[.lst false ((l.take k).map cPm),.fn (.func 107) [] [.ip [.fn (.func g) [] []],.ip (cPm l[k])]]) (fun j=>decide (j=rest.length+1)) ⟨.inl (by simp),.inr ?_,trivial⟩ ((hasPm false (l.take k) _ _ hF hhF hl3 (by simp;omega)).toSound _ (.cons (.hf hl3) (.cons (.hf hhF) .nil)))) ?_ ?_
   ·refine .fn _ _ _ _ _ rfl rfl (fun k x y hx=>by simp at hx) fun j x y hx hy=>?_
    match j,hx,hy with
    | 0,hx,hy =>
     simp at hx hy;subst hx;subst hy
     exact .hf _ (hf_fnc g)
    | 1,hx,hy =>
     simp at hx hy;subst hx;subst hy
     exact .ptr _ 0 (cPm l[k]) _ (by rw [cutM_get];simp) (by simp) fun i x y hx hy=>by
      rw [Nat.zero_add] at hx
      rw [hx] at hy;cases hy
      exact .hf _ (hf_cPm _ _ (List.mem_of_getElem? hx))
    |j+2,hx,hy=>simp at hx
   ·rintro r m ⟨e,rfl⟩
    cases e
    have hAs:=bools_set hrl hlt (repL_get eqv l hlt)
    simp only [List.map_take] at hAs
    generalize hA:List.take k (List.map aB (repL eqv l))++List.replicate (l.length-k) (aB false)=A at hAs
    have hAl:A.length=l.length:=by rw [←hA];simp [hrl];omega
    have hkA:k+1≤A.length:=by omega
    simp [go_sem,cutM,hlt,hkA,e0,e3,e5,e11,e12,e13,w1]
    refine Keep.mk' ?_
    refine ⟨cutM (fun i=>!decide (i=rest.length+1)) (rest++[.arr (cPm l[k])]) 1,by simp [go_sem,e0],by simp [go_sem,e3],by simp [go_sem,e5],by simp [go_sem,e11],by simp [go_sem,e12],by simp [go_sem],?_⟩
    simp only [put_mu,List.map_take]
    rw [←hAs]
   ·rintro r m ⟨e,_⟩;cases e
theorem rep1FaU (g:FuncId) (eqv:ByteArray×Nd→ByteArray×Nd→Bool) (x y:ByteArray×Nd) (hg:SoundP Tryz.prog g [.agg (cFa x),.agg (cFa y)] (aB (eqv x y))):SoundP Tryz.prog 110 [.agg (cFa y),.ip [.fn (.func g) [] []],.ip (cFa x)] (aB (eqv x y)):=by
 refine SoundP.of_sound (Sound.of_awp Tryz.call110 Tryz.func110 rfl (Nat.le_of_ble_eq_true (by kernel_rfl)) (by kernel_rfl) (pl:={}) ?_)
 simp [go_sem]
 refine CallStep.pure hg (.cons (.hf (HF.agg (hf_cFa x))) (.cons (.hf (HF.agg (hf_cFa y))) .nil)) ?_
 simp [go_sem]
 exact .hf _ (HF.sc _)
theorem repFaU (g:FuncId) (eqv:ByteArray×Nd→ByteArray×Nd→Bool) (l:List (ByteArray×Nd)) (hg:∀ x y,x∈l→y∈l→SoundP Tryz.prog g [.agg (cFa x),.agg (cFa y)] (aB (eqv x y))) (hl:l.length≤1000):SoundP Tryz.prog 62 [lFa l,.fn (.func g) [] []] (lB (repL eqv l)):=by
 refine SoundP.of_sound (Sound.of_awp Tryz.call62 Tryz.func62 rfl (Nat.le_of_ble_eq_true (by kernel_rfl)) (by kernel_rfl) (pl:={}) ?_)
 have hl2:(l.length:Int)≤4294967296:=by omega
 simp [go_sem,hl2]
 refine LoopGo.upK l.length (fun k st=>∃ rest,st.tm 0=lFa l∧st.tm 3 = .ip [.fn (.func g) [] []]∧st.tm 5 = .sl 0 1 0 l.length∧st.tm 11=lFa l∧st.tm 12=aI l.length∧st.tm 13=aI k∧st.mu = .arr (((repL eqv l).take k).map aB++List.replicate (l.length-k) (aB false)) :: rest) ?_ ?_
 ·exact ⟨[],by simp [go_sem],by simp [go_sem],by simp [go_sem],by simp [go_sem],by simp [go_sem],by simp [go_sem],by simp [go_sem]⟩
 ·rintro k st hk ⟨rest,e0,e3,e5,e11,e12,e13,hm⟩
  have hrl:=repL_len eqv l
  by_cases hkl:k=l.length
  ·subst hkl
   simp [go_sem,e0,e3,e5,e11,e12,e13,hm]
   exact rd_bools hrl List.map_take.symm
  ·have hlt:k<l.length:=by omega
   have w1:IntKind.i64.wrap ((k:Int)+1)=(k:Int)+1:=wrap_i64 (by omega) (by omega)
   have hsz:rowsOk 6 (l.map cFa):=fun r hr=>by
    obtain ⟨q,_,rfl⟩:=List.mem_map.1 hr
    exact (cFa_row q).1
   have hcc:(cFa l[k]).length=6:=(cFa_row _).1
   simp [go_sem,e0,e3,e5,e11,e12,e13,hm,hlt]
   refine ⟨⟨_,_,⟨rfl,rfl⟩,hsz⟩,?_⟩
   rw [if_pos (by omega)]
   simp [go_sem,e3]
   have hF:FnOkP Tryz.prog (.fn (.func 110) [] [.ip [.fn (.func g) [] []],.ip (cFa l[k])]) (l.take k) (fun x => .agg (cFa x)) (eqv l[k]):=
    ⟨_,_,_,rfl,fun y hy=>⟨_,rep1FaU g eqv l[k] y (hg l[k] y (List.getElem_mem hlt) (List.mem_of_mem_take hy)),.cons (.hf (HF.agg (hf_cFa y))) (.cons (.hf (hf_fnc g)) (.cons (.hf (HF.ip (hf_cFa _))) .nil))⟩⟩
   have hhF:HF (.fn (.func 110) [] [.ip [.fn (.func g) [] []],.ip (cFa l[k])]):=HF.fn (fun c hc=>by simp at hc) fun c hc=>by
    simp only [List.mem_cons,List.not_mem_nil,or_false] at hc
    rcases hc with rfl | rfl
    ·exact hf_fnc g
    ·exact HF.ip (hf_cFa _)
   have hl3:=hf_lFa (l.take k)
   refine CallStep.eff0 (Sound.freeze (args1:=[.lst false ((l.take k).map cFa),.fn (.func 110) [] [.ip [.fn (.func g) [] []],.ip (cFa l[k])]]) (fun j=>decide (j=rest.length+1)) ⟨.inl (by simp),.inr ?_,trivial⟩ ((hasFa false (l.take k) _ _ hF hhF hl3 (by simp;omega)).toSound _ (.cons (.hf hl3) (.cons (.hf hhF) .nil)))) ?_ ?_
   ·refine .fn _ _ _ _ _ rfl rfl (fun k x y hx=>by simp at hx) fun j x y hx hy=>?_
    match j,hx,hy with
    | 0,hx,hy =>
     simp at hx hy;subst hx;subst hy
     exact .hf _ (hf_fnc g)
    | 1,hx,hy =>
     simp at hx hy;subst hx;subst hy
     exact .ptr _ 0 (cFa l[k]) _ (by rw [cutM_get];simp) (by simp) fun i x y hx hy=>by
      rw [Nat.zero_add] at hx
      rw [hx] at hy;cases hy
      exact .hf _ (hf_cFa _ _ (List.mem_of_getElem? hx))
    |j+2,hx,hy=>simp at hx
   ·rintro r m ⟨e,rfl⟩
    cases e
    have hAs:=bools_set hrl hlt (repL_get eqv l hlt)
    simp only [List.map_take] at hAs
    generalize hA:List.take k (List.map aB (repL eqv l))++List.replicate (l.length-k) (aB false)=A at hAs
    have hAl:A.length=l.length:=by rw [←hA];simp [hrl];omega
    have hkA:k+1≤A.length:=by omega
    simp [go_sem,cutM,hlt,hkA,e0,e3,e5,e11,e12,e13,w1]
    refine Keep.mk' ?_
    refine ⟨cutM (fun i=>!decide (i=rest.length+1)) (rest++[.arr (cFa l[k])]) 1,by simp [go_sem,e0],by simp [go_sem,e3],by simp [go_sem,e5],by simp [go_sem,e11],by simp [go_sem,e12],by simp [go_sem],?_⟩
    simp only [put_mu,List.map_take]
    rw [←hAs]
   ·rintro r m ⟨e,_⟩;cases e
end Go.Proofs.YtcfopdccdeeleaaGreatDoor.Y15


namespace Go.Proofs.YtcfopdccdeeleaaGreatDoor.Y16
open Go Go.Ev Go.Proofs Go.Proofs.YtcfopdccdeeleaaGreatDoor YM YS YF P1 P2 Y1 Y2 Y3 Y4 Y5 Y6 Y7 Y8 Y9 Y10 Y11 Y12 Y13 Y14 Y15
theorem equalI (a b:List Int) (ha:a.length≤9223372036854775807):SoundP Tryz.prog 56 [lI a,lI b] (aB (decide (a=b))):=by
 refine SoundP.of_sound (Sound.of_awp Tryz.call56 Tryz.func56 rfl (Nat.le_of_ble_eq_true (by kernel_rfl)) (by kernel_rfl) (pl:={}) ?_)
 by_cases hn:a.length=b.length
 case neg =>
  simp [go_sem,hn]
  rw [decide_eq_false (by rintro rfl;exact hn rfl)]
  exact .hf _ (HF.sc _)
 simp [go_sem,hn]
 refine LoopGo.up a.length (fun k st=>st.tm 0=lI a∧st.tm 1=lI b∧st.tm 12=aI a.length∧st.tm 13=aI k∧st.mu=[]∧∀(i:Nat) (h:i<a.length) (h':i<b.length),i<k→a[i]=b[i]) ?_ ?_
 ·simp [go_sem,hn]
 rintro k st hk ⟨h0,h1,h12,h13,hm,he⟩
 by_cases hlt:k<a.length
 ·have hlt':k<b.length:=by omega
  simp [go_sem,h0,h1,h12,h13,hm,hlt]
  try refine DrawGo.intro (by kernel_rfl) ?_
  by_cases hb:a[k]=b[k]
  ·simp [go_sem,h0,h1,h12,h13,hm,hlt,hlt',hb]
   refine ⟨wrap_i64 (by omega) (by omega),fun i h h' hi=>?_⟩
   rcases Nat.lt_succ_iff_lt_or_eq.1 hi with h2 | h2
   ·exact he i h h' h2
   ·subst h2;exact hb
  ·simp [go_sem,h0,h1,h12,h13,hm,hlt,hlt',hb]
   rw [decide_eq_false (by rintro rfl;simp at hb)]
   exact .hf _ (HF.sc _)
 ·have hge:k=a.length:=by omega
  subst hge
  simp [go_sem,h0,h1,h12,h13,hm]
  rw [decide_eq_true (List.ext_getElem hn fun i h h'=>he i h h' h)]
  exact .hf _ (HF.sc _)
theorem eq4U (x y:Fld) (hx:x.sorts.length≤1000):SoundP Tryz.prog 55 [.agg (cField x),.agg (cField y)] (aB (decide (x.name=y.name)&&decide (x.sorts=y.sorts))):=by
 refine SoundP.of_sound (Sound.of_awp Tryz.call55 Tryz.func55 rfl (Nat.le_of_ble_eq_true (by kernel_rfl)) (by kernel_rfl) (pl:={}) ?_)
 by_cases h:x.name=y.name
 ·simp [go_sem,h]
  refine CallStep.pure (equalI x.sorts y.sorts (by omega)) (.cons (.hf (hf_lI _)) (.cons (.hf (hf_lI _)) .nil)) ?_
  simp [go_sem]
  exact .hf _ (HF.sc _)
 ·simp [go_sem,h,str_ne h]
  exact .hf _ (HF.sc _)
theorem eq5U (x y:Pd):SoundP Tryz.prog 58 [.agg (cPd x),.agg (cPd y)] (aB (decide (x.name=y.name))):=by
 refine SoundP.of_sound (Sound.of_awp Tryz.call58 Tryz.func58 rfl (Nat.le_of_ble_eq_true (by kernel_rfl)) (by kernel_rfl) (pl:={}) ?_)
 by_cases h:x.name=y.name
 ·simp [go_sem,h]
  exact .hf _ (HF.sc _)
 ·simp [go_sem,h,str_ne h]
  exact .hf _ (HF.sc _)
theorem eq6U (x y:ByteArray×Int):SoundP Tryz.prog 60 [.agg (cPm x),.agg (cPm y)] (aB (decide (x.1=y.1))):=by
 refine SoundP.of_sound (Sound.of_awp Tryz.call60 Tryz.func60 rfl (Nat.le_of_ble_eq_true (by kernel_rfl)) (by kernel_rfl) (pl:={}) ?_)
 by_cases h:x.1=y.1
 ·simp [go_sem,h]
  exact .hf _ (HF.sc _)
 ·simp [go_sem,h,str_ne h]
  exact .hf _ (HF.sc _)
theorem eq7U (x y:ByteArray×Nd):SoundP Tryz.prog 63 [.agg (cFa x),.agg (cFa y)] (aB (decide (x.1=y.1))):=by
 refine SoundP.of_sound (Sound.of_awp Tryz.call63 Tryz.func63 rfl (Nat.le_of_ble_eq_true (by kernel_rfl)) (by kernel_rfl) (pl:={}) ?_)
 by_cases h:x.1=y.1
 ·simp [go_sem,h]
  exact .hf _ (HF.sc _)
 ·simp [go_sem,h,str_ne h]
  exact .hf _ (HF.sc _)
abbrev cDg (d:Dg):List AV:=[aI d.1,aI d.2]
def blkO:AV→Option Nat
 | .sl b _ _ _=>some b
 |_=>none
structure OutAt (b:Nat) (mu:Mu) (av:AV) (xs:List Dg):Prop where
 cell:mu[b]?=some (.arr [av])
 own:Own mu 2 av (xs.map cDg)
 ne:blkO av≠some b
structure Fr (b:Nat) (mu:Mu) (av:AV) (mu':Mu) (av':AV):Prop where
 len:mu.length≤mu'.length
 same:∀ i,i<mu.length→i≠b→blkO av≠some i→mu'[i]?=mu[i]?∧blkO av'≠some i
theorem Fr.refl (b:Nat) (mu:Mu) (av:AV):Fr b mu av mu av:=⟨Nat.le_refl _,fun i _ _ h=>⟨rfl,h⟩⟩
theorem Fr.trans {b:Nat} {mu mu' mu'':Mu} {av av' av'':AV} (h:Fr b mu av mu' av') (h':Fr b mu' av' mu'' av''):Fr b mu av mu'' av'':=
 ⟨Nat.le_trans h.len h'.len,fun i hi hb ha=>by
  obtain ⟨e1,n1⟩:=h.same i hi hb ha
  obtain ⟨e2,n2⟩:=h'.same i (Nat.lt_of_lt_of_le hi h.len) hb n1
  exact ⟨e2.trans e1,n2⟩⟩
theorem OutAt.push {b:Nat} {mu:Mu} {av:AV} {xs:List Dg} (h:OutAt b mu av xs) (l:List Cell):OutAt b (mu++l) av xs∧Fr b mu av (mu++l) av:=by
 refine ⟨⟨by rw [List.getElem?_append_left (List.getElem?_eq_some_iff.1 h.cell).1];exact h.cell,?_,h.ne⟩,by simp,fun i hi _ hn=>⟨by rw [List.getElem?_append_left hi],hn⟩⟩
 rcases h.own with rfl | ⟨c,rfl,hc⟩
 ·exact .inl rfl
 ·exact .inr ⟨c,rfl,by rw [List.getElem?_append_left (List.getElem?_eq_some_iff.1 hc).1];exact hc⟩
theorem OutAt.app {b:Nat} {mu:Mu} {av:AV} {xs:List Dg} (h:OutAt b mu av xs) (d:Dg) (hl:xs.length≤100000) {K:AV→Mu→Prop}
  (k:∀ av' mu',Own mu' 2 av' ((xs++[d]).map cDg)→(∀ i,i<mu.length→blkO av≠some i→mu'[i]?=mu[i]?)→(∀ c,blkO av'=some c→c=mu.length)→mu.length≤mu'.length→K av' mu') :
  AppendStep Tryz.prog mu #[36,36] av (.lst true [cDg d]) K:=by
 have hrows:∀ l:List Dg,rowsWf 2 (l.map cDg):=fun l r hr=>by
  obtain ⟨n,_,rfl⟩:=List.mem_map.1 hr
  exact ⟨rfl,rfl⟩
 refine .inl ?_
 refine ⟨_,_,44,2,16,[cDg d],rfl,by simp [go_sem],by simp [go_sem],⟨.agg [aI 0,aI 0],by simp [go_sem],rfl,rfl⟩,by omega,by omega,by simp [rowsOf],hrows [d],?_⟩
 rcases h.own with rfl | ⟨c,rfl,hc⟩
 ·refine .inl ⟨_,rfl,hrows xs,by simp;omega,fun h=>absurd h (by simp),fun _=>?_⟩
  refine k _ _ (.inr ⟨mu.length,by simp,by simp⟩) (fun i hi _=>?_) (fun b h=>by cases h;rfl) (by simp)
  rw [List.getElem?_append_left hi]
 ·have hfl:=flatten_len (hrows xs).ok
  refine .inr ⟨c,_,_,rfl,hc,by omega,by simp;omega,?_⟩
  have htk:(xs.map cDg).flatten.take ((xs.map cDg).length*2)=(xs.map cDg).flatten:=List.take_of_length_le (by omega)
  refine k _ _ (.inr ⟨mu.length,by simp,?_⟩) (fun i hi hne=>?_) (fun b h=>by cases h;rfl) (by simp)
  ·rw [htk,List.getElem?_append_right (by simp)];simp
  ·rw [List.getElem?_append_left (by simpa using hi)]
   rw [List.getElem?_set_ne (fun e=>hne (by rw [e];rfl))]
theorem own_one {sz:Nat} {mu:Mu} {av:AV} {xs:List (List AV)} (h:Own mu sz av xs):av.one=true:=by
 rcases h with rfl | ⟨b,rfl,_⟩<;>rfl
theorem own_cells {sz:Nat} {mu:Mu} {av:AV} {xs:List (List AV)} (h:Own mu sz av xs):av.cells=[av]:=by
 rcases h with rfl | ⟨b,rfl,_⟩<;>rfl
theorem own_set {sz:Nat} {mu:Mu} {av:AV} {xs:List (List AV)} (h:Own mu sz av xs) {i:Nat} {c:Cell} (hi:blkO av≠some i):Own (mu.set i c) sz av xs:=by
 rcases h with rfl | ⟨b,rfl,hc⟩
 ·exact .inl rfl
 ·exact .inr ⟨b,rfl,by rw [List.getElem?_set_ne (fun e=>hi (by rw [e];rfl))];exact hc⟩
theorem reportU {b:Nat} {mu:Mu} {av:AV} {xs:List Dg} (h:OutAt b mu av xs) (d:Dg) (hl:xs.length≤100000):Sound Tryz.prog 50 [.agg (cDg d),.ptr b 0] mu fun e mu'=>e = .ret (.tup [])∧∃ av',OutAt b mu' av' (xs++if d.1=0 then [] else [d])∧Fr b mu av mu' av':=by
 refine Sound.of_awp Tryz.call50 Tryz.func50 rfl (Nat.le_of_ble_eq_true (by kernel_rfl)) (by kernel_rfl) (pl:={}) ?_
 by_cases h0:d.1=0
 ·simp [go_sem,h0]
  exact ⟨av,h,Fr.refl _ _ _⟩
 ·simp [go_sem,h0,h.cell]
  refine h.app d hl fun av' mu' ho hm hb hlen=>?_
  have hbl:b<mu.length:=(List.getElem?_eq_some_iff.1 h.cell).1
  have hcell:mu'[b]?=some (.arr [av]):=by rw [hm b hbl h.ne];exact h.cell
  have hbl':b<mu'.length:=by omega
  have hone:=own_one ho
  have hcells:=own_cells ho
  simp [go_sem,hcell,hone,hcells]
  refine ⟨av',⟨List.getElem?_set_self hbl',own_set ho fun e=>by have:=hb b e;omega,fun e=>by have:=hb b e;omega⟩,by simpa using hlen,fun i hi hne hna=>⟨?_,fun e=>by have:=hb i e;omega⟩⟩
  rw [List.getElem?_set_ne (fun e=>hne e.symm)]
  exact hm i hi hna
def dups (l:List Bool):List Dg:=(l.filter id).map fun _=>(41,0)
theorem twiceU {b r:Nat} {mu:Mu} {av:AV} {xs:List Dg} (h:OutAt b mu av xs) (l:List Bool) (hl:xs.length+l.length≤100000) (hr:mu[r]?=some (.arr [.fn (.func 50) [] [.ptr b 0]])) :
  Sound Tryz.prog 51 [lB l,.ptr r 0] mu fun e mu'=>e = .ret (.tup [])∧∃ av',OutAt b mu' av' (xs++dups l)∧Fr b mu av mu' av':=by
 refine Sound.of_awp Tryz.call51 Tryz.func51 rfl (Nat.le_of_ble_eq_true (by kernel_rfl)) (by kernel_rfl) (pl:={}) ?_
 have hrl:r<mu.length:=(List.getElem?_eq_some_iff.1 hr).1
 have hrb:r≠b:=fun e=>by
  rw [e,h.cell] at hr
  injection hr with hr;injection hr with hr;injection hr with hr _
  rcases h.own with ho | ⟨_,ho,_⟩<;>rw [ho] at hr<;>cases hr
 have hra:blkO av≠some r:=fun e=>by
  rcases h.own with ho | ⟨c,ho,hc⟩
  ·rw [ho] at e;cases e
  ·rw [ho] at e;cases e
   rw [hr] at hc
   injection hc with hc;injection hc with hc
   have:((xs.map cDg).flatten).length=xs.length*2:=by simpa using flatten_len (sz:=2) (xs:=xs.map cDg) fun r hr=>by obtain ⟨_,_,rfl⟩:=List.mem_map.1 hr;rfl
   rw [←hc] at this
   simp at this
   omega
 simp [go_sem]
 refine LoopGo.upK l.length (fun k st=>st.tm 1 = .ptr r 0∧st.tm 5=lB l∧st.tm 6=aI l.length∧st.tm 7=aI k∧∃ av',OutAt b st.mu av' (xs++dups (l.take k))∧Fr b mu av st.mu av') ?_ ?_
 ·exact ⟨by simp [go_sem],by simp [go_sem],by simp [go_sem],by simp [go_sem],av,by simpa [dups,go_sem] using h,by simpa [go_sem] using Fr.refl b mu av⟩
 ·rintro k st hk ⟨e1,e5,e6,e7,av',ho,hf⟩
  obtain ⟨hr',hra'⟩:=hf.same r hrl hrb hra
  rw [hr] at hr'
  by_cases hkl:k=l.length
  ·subst hkl
   rw [List.take_length] at ho
   simp [go_sem,e1,e5,e6,e7]
   exact ⟨av',ho,hf⟩
  ·have hlt:k<l.length:=by omega
   have w1:IntKind.i64.wrap ((k:Int)+1)=(k:Int)+1:=wrap_i64 (by omega) (by omega)
   have hd:dups (l.take (k+1))=dups (l.take k)++if l[k]=true then [(41,0)] else []:=by
    rw [List.take_add_one,List.getElem?_eq_getElem hlt]
    cases h:l[k]<;>simp [dups,h]
   have hdl:(dups (l.take k)).length≤k:=by
    unfold dups
    rw [List.length_map]
    exact Nat.le_trans (List.length_filter_le _ _) (by simp;omega)
   cases hlk:l[k] with
   |false =>
    rw [hlk] at hd
    simp [go_sem,e1,e5,e6,e7,hlt,hlk,w1]
    refine Keep.mk' ⟨by simp [go_sem,e1],by simp [go_sem,e5],by simp [go_sem,e6],by simp [go_sem],av',?_,by simpa [go_sem] using hf⟩
    rw [hd]
    simpa [go_sem] using ho
   |true =>
    rw [hlk] at hd
    simp [go_sem,e1,e5,e6,e7,hlt,hlk,hr']
    refine CallStep.eff (reportU ho (41,0) (by simp;omega)) ?_ ?_
    ·rintro x m ⟨ex,av'',ho2,hf2⟩
     cases ex
     simp [go_sem,e1,e5,e6,e7,w1]
     refine ⟨hlt,Keep.mk' ?_⟩
     refine ⟨by simp [go_sem,e1],by simp [go_sem,e5],by simp [go_sem,e6],by simp [go_sem],av'',?_,by simpa [go_sem] using hf.trans hf2⟩
     rw [hd]
     simpa [go_sem] using ho2
    ·rintro x m ⟨ex,_⟩;cases ex
def repB {α:Type} (eqv:α→α→Bool) (l:List α) (i:Nat):List Bool:=((repL eqv l).take (i+1)).drop i
def rp (d:Dg):List Dg:=if d.1=0 then [] else [d]
def predD (ts:TS) (i:Nat):List Dg:=match ts.preds[i]? with
 |some p=>dups (repB (fun x y:Pd=>decide (x.name=y.name)) ts.preds i)++(dups (repL (fun x y:ByteArray×Int=>decide (x.1=y.1)) p.params)++rp (formK (mkCk ts i) p.params p.body))
 |none=>[]
def factD (ts:TS) (fa:List (ByteArray×Nd)) (i:Nat):List Dg:=match fa[i]? with
 |some f=>dups (repB (fun x y:ByteArray×Nd=>decide (x.1=y.1)) fa i)++rp (checkF ts [] f.2)
 |none=>[]
def checkL (ts:TS):List Dg:=
 dups (repL (fun x y:ByteArray×Bool=>decide (x.1=y.1)) ts.sorts)++(dups (repL (fun x y:Fld=>decide (x.name=y.name)&&decide (x.sorts=y.sorts)) ts.fields) ++
  ((List.range ts.preds.length).flatMap (predD ts)++(List.range ts.facts.length).flatMap (factD ts ts.facts)))
abbrev lDg (l:List Dg):AV := .lst false (l.map cDg)
abbrev repF:AV := .fn (.func 50) [] [.ptr 0 0]
abbrev twF:AV := .fn (.func 51) [] [.ptr 1 0]
theorem OutAt.rep {mu:Mu} {av:AV} {xs:List Dg} (h:OutAt 0 mu av xs) (h1:mu[1]?=some (.arr [repF])):blkO av≠some 1:=fun e=>by
 rcases h.own with ho | ⟨c,ho,hc⟩
 ·rw [ho] at e;cases e
 ·rw [ho] at e;cases e
  rw [h1] at hc
  injection hc with hc;injection hc with hc
  have:((xs.map cDg).flatten).length=xs.length*2:=by simpa using flatten_len (sz:=2) (xs:=xs.map cDg) fun r hr=>by obtain ⟨_,_,rfl⟩:=List.mem_map.1 hr;rfl
  rw [←hc] at this
  simp at this
  omega
theorem stepT {mu:Mu} {av:AV} {xs:List Dg} {l:List Bool} (h:OutAt 0 mu av xs) (h1:mu[1]?=some (.arr [repF])) (hl:xs.length+l.length≤100000) {K Kp:AV→Mu→Prop}
  (k:∀ av' mu',OutAt 0 mu' av' (xs++dups l)→mu'[1]?=some (.arr [repF])→Fr 0 mu av mu' av'→K (.tup []) mu'):CallStep Tryz.prog false mu twF [lB l] K Kp:=by
 refine CallStep.eff (twiceU h l hl h1) ?_ ?_
 ·rintro x m ⟨ex,av',ho,hf⟩
  cases ex
  have hlt:1<mu.length:=(List.getElem?_eq_some_iff.1 h1).1
  exact k av' m ho (((hf.same 1 hlt (by omega) (h.rep h1)).1).trans h1) hf
 ·rintro x m ⟨ex,_⟩;cases ex
theorem stepR {mu:Mu} {av:AV} {xs:List Dg} (d:Dg) (h:OutAt 0 mu av xs) (h1:mu[1]?=some (.arr [repF])) (hl:xs.length≤100000) {K Kp:AV→Mu→Prop}
  (k:∀ av' mu',OutAt 0 mu' av' (xs++rp d)→mu'[1]?=some (.arr [repF])→Fr 0 mu av mu' av'→K (.tup []) mu'):CallStep Tryz.prog false mu repF [.agg (cDg d)] K Kp:=by
 refine CallStep.eff (reportU h d hl) ?_ ?_
 ·rintro x m ⟨ex,av',ho,hf⟩
  cases ex
  have hlt:1<mu.length:=(List.getElem?_eq_some_iff.1 h1).1
  exact k av' m ho (((hf.same 1 hlt (by omega) (h.rep h1)).1).trans h1) hf
 ·rintro x m ⟨ex,_⟩;cases ex
theorem dups_len (l:List Bool):(dups l).length≤l.length:=by
 unfold dups
 rw [List.length_map]
 exact List.length_filter_le _ _
theorem rp_len (d:Dg):(rp d).length≤1:=by unfold rp;split<;>simp
theorem hf_f0 (f:FuncId):HF (.fn (.func f) [] []):=HF.fn (fun c hc=>by simp at hc) (fun c hc=>by simp at hc)
abbrev eqS1 (x y:ByteArray×Bool):Bool:=decide (x.1=y.1)
abbrev eqF1 (x y:Fld):Bool:=decide (x.name=y.name)&&decide (x.sorts=y.sorts)
abbrev eqP1 (x y:Pd):Bool:=decide (x.name=y.name)
abbrev eqM1 (x y:ByteArray×Int):Bool:=decide (x.1=y.1)
abbrev eqA1 (x y:ByteArray×Nd):Bool:=decide (x.1=y.1)
theorem own_ne {sz:Nat} {mu:Mu} {av:AV} {xs:List (List AV)} (h:Own mu sz av xs):blkO av≠some mu.length:=by
 rcases h with rfl | ⟨b,rfl,hc⟩
 ·intro e;cases e
 ·intro e;cases e
  have:=(List.getElem?_eq_some_iff.1 hc).1
  omega
theorem flat_len (f:Nat→List Dg) (hf:∀ i,(f i).length≤10):∀ k,((List.range k).flatMap f).length≤10*k
 | 0=>by simp
 |k+1=>by
  rw [List.range_succ,List.flatMap_append,List.length_append]
  have:=flat_len f hf k
  have:=hf k
  simp only [List.flatMap_cons,List.flatMap_nil,List.append_nil]
  omega
theorem repB_len {α:Type} (eqv:α→α→Bool) (l:List α) (i:Nat):(repB eqv l i).length≤1:=by
 unfold repB
 rw [List.length_drop,List.length_take]
 omega
theorem predD_len {ts:TS} (h:okTS ts) (i:Nat):(predD ts i).length≤10:=by
 unfold predD
 split
 ·rename_i p hp
  have h1:=(h.pl p (List.mem_of_getElem? hp)).1
  have h2:=dups_len (repB (fun x y:Pd=>decide (x.name=y.name)) ts.preds i)
  have h3:=repB_len (fun x y:Pd=>decide (x.name=y.name)) ts.preds i
  have h4:=dups_len (repL (fun x y:ByteArray×Int=>decide (x.1=y.1)) p.params)
  rw [repL_len] at h4
  have h5:=rp_len (formK (mkCk ts i) p.params p.body)
  simp only [List.length_append]
  omega
 ·simp
theorem factD_len (ts:TS) (fa:List (ByteArray×Nd)) (i:Nat):(factD ts fa i).length≤10:=by
 unfold factD
 split
 ·rename_i f hf
  have h2:=dups_len (repB (fun x y:ByteArray×Nd=>decide (x.1=y.1)) fa i)
  have h3:=repB_len (fun x y:ByteArray×Nd=>decide (x.1=y.1)) fa i
  have h5:=rp_len (checkF ts [] f.2)
  simp only [List.length_append]
  omega
 ·simp
theorem checkU (ts:TS) (h:okTS ts) (hp:∀ p,p∈ts.preds→WfN p.body) (hf:∀ f,f∈ts.facts→WfN f.2):SoundP Tryz.prog 19 [eTS ts] (lDg (checkL ts)):=by
 refine SoundP.of_sound (Sound.of_awp Tryz.call19 Tryz.func19 rfl (Nat.le_of_ble_eq_true (by kernel_rfl)) (by kernel_rfl) (pl:={}) ?_)
 simp [go_sem]
 have hns:=h.ns
 have hnf:=h.nf
 have hnp:=h.np
 have hnfa:=h.nfa
 refine CallStep.pure (repSoU _ eqS1 ts.sorts (fun x y _ _=>eq3U x y) (by omega)) (.cons (.hf (hf_lSo _)) (.cons (.hf (hf_f0 _)) .nil)) ?_
 simp [go_sem]
 have h0:OutAt 0 [.arr [.lst true []],.arr [repF]] (.lst true []) []:=⟨rfl,.inl rfl,by simp [blkO]⟩
 have l1:=dups_len (repL eqS1 ts.sorts)
 have l2:=dups_len (repL eqF1 ts.fields)
 rw [repL_len] at l1 l2
 refine stepT h0 rfl (by simp [repL_len];omega) fun av1 mu1 o1 r1 f1=>?_
 simp [go_sem]
 refine CallStep.pure (repFlU _ eqF1 ts.fields (fun x y hx _=>eq4U x y (by have:=(h.fl x hx).2.1;omega)) (by omega)) (.cons (.hf (hf_lFl _)) (.cons (.hf (hf_f0 _)) .nil)) ?_
 simp [go_sem]
 refine stepT o1 r1 (by simp [repL_len];omega) fun av2 mu2 o2 r2 f2=>?_
 simp [go_sem]
 refine CallStep.pure (repPdU _ eqP1 ts.preds (fun x y _ _=>eq5U x y) (by omega)) (.cons (.hf (hf_lPd _)) (.cons (.hf (hf_f0 _)) .nil)) ?_
 simp [go_sem]
 simp only [List.nil_append] at o2
 generalize hbase:dups (repL eqS1 ts.sorts)++dups (repL eqF1 ts.fields)=base at o2
 have hbl:base.length≤10:=by rw [←hbase,List.length_append];omega
 refine LoopGo.upK ts.preds.length (fun k st=>∃ av,st.tm 1 = .ip (cTS ts)∧st.tm 3 = .ptr 0 0∧st.tm 4 = .ptr 1 0∧st.tm 5=twF∧st.tm 6=lB (repL eqP1 ts.preds)∧st.tm 28=lPd ts.preds∧st.tm 29=aI ts.preds.length∧st.tm 30=aI k ∧
  OutAt 0 st.mu av (base++(List.range k).flatMap (predD ts))∧st.mu[1]?=some (.arr [repF])) ?_ ?_
 ·refine ⟨av2,by simp [go_sem],by simp [go_sem],by simp [go_sem],by simp [go_sem],by simp [go_sem],by simp [go_sem],by simp [go_sem],by simp [go_sem],by simpa [go_sem] using o2,by simpa [go_sem] using r2⟩
 ·rintro k st hk ⟨av,e1,e3,e4,e5,e6,e28,e29,e30,ho,hr⟩
  have hfl:=flat_len (predD ts) (fun i=>predD_len h i) k
  by_cases hkl:k=ts.preds.length
  ·subst hkl
   simp [go_sem,e1,e3,e4,e5,e6,e28,e29,e30]
   refine CallStep.pure (repFaU _ eqA1 ts.facts (fun x y _ _=>eq7U x y) (by omega)) (.cons (.hf (hf_lFa _)) (.cons (.hf (hf_f0 _)) .nil)) ?_
   simp [go_sem,e1,e3,e4,e5,e6,e28,e29,e30]
   generalize hbase2:base++(List.range ts.preds.length).flatMap (predD ts)=base2 at ho
   have hbl2:base2.length≤100:=by rw [←hbase2,List.length_append];omega
   refine LoopGo.upK ts.facts.length (fun k st=>∃ av,st.tm 1 = .ip (cTS ts)∧st.tm 3 = .ptr 0 0∧st.tm 4 = .ptr 1 0∧st.tm 5=twF∧st.tm 9=lB (repL eqA1 ts.facts)∧st.tm 62=lFa ts.facts∧st.tm 63=aI ts.facts.length∧st.tm 64=aI k ∧
    OutAt 0 st.mu av (base2++(List.range k).flatMap (factD ts ts.facts))∧st.mu[1]?=some (.arr [repF])) ?_ ?_
   ·refine ⟨av,by simp [go_sem,e1],by simp [go_sem,e3],by simp [go_sem,e4],by simp [go_sem,e5],by simp [go_sem],by simp [go_sem],by simp [go_sem],by simp [go_sem],by simpa [go_sem] using ho,by simpa [go_sem] using hr⟩
   ·clear ho hr hfl e1 e3 e4 e5 e6 e28 e29 e30 st av hk
    rintro k st hk ⟨av,e1,e3,e4,e5,e9,e62,e63,e64,ho,hr⟩
    have hfl:=flat_len (factD ts ts.facts) (fun i=>factD_len ts ts.facts i) k
    by_cases hkl:k=ts.facts.length
    ·subst hkl
     simp [go_sem,e1,e3,e4,e5,e9,e62,e63,e64,ho.cell]
     have hck:checkL ts=base2++(List.range ts.facts.length).flatMap (factD ts ts.facts):=by
      rw [←hbase2,←hbase]
      simp only [checkL,List.append_assoc]
     rw [hck]
     refine Own.rd (sz:=2) ho.own (fun r hr=>?_) fun r hr c hc=>?_
     ·obtain ⟨d,_,rfl⟩:=List.mem_map.1 hr;rfl
     ·obtain ⟨d,_,rfl⟩:=List.mem_map.1 hr
      simp at hc
      rcases hc with rfl | rfl<;>exact HF.sc _
    ·have hlt:k<ts.facts.length:=by omega
     have w1:IntKind.i64.wrap ((k:Int)+1)=(k:Int)+1:=wrap_i64 (by omega) (by omega)
     simp [go_sem,e1,e3,e4,e5,e9,e62,e63,e64,hlt,w1]
     have hrs:rowsOk 1 ((repL eqA1 ts.facts).map fun b=>[aB b]):=fun r hr=>by
      obtain ⟨b,_,rfl⟩:=List.mem_map.1 hr;rfl
     refine ⟨⟨_,_,⟨rfl,rfl⟩,hrs⟩,?_⟩
     rw [if_pos ⟨by omega,by rw [repL_len];omega⟩]
     simp [go_sem]
     have hsl:AV.lst false (List.drop k (List.take (k+1) ((repL eqA1 ts.facts).map fun b=>[aB b])))=lB (repB eqA1 ts.facts k):=by
      simp only [repB,lB,List.map_drop,List.map_take]
     rw [hsl]
     obtain ⟨oP,fP⟩:=ho.push [.arr (cFa ts.facts[k])]
     have rP:(st.mu++[.arr (cFa ts.facts[k])])[1]?=some (.arr [repF]):=by rw [List.getElem?_append_left (List.getElem?_eq_some_iff.1 hr).1];exact hr
     have gP:(st.mu++[.arr (cFa ts.facts[k])])[st.mu.length]?=some (.arr (cFa ts.facts[k])):=by simp
     have nP:blkO av≠some st.mu.length:=own_ne ho.own
     have zP:st.mu.length≠0:=by have:=(List.getElem?_eq_some_iff.1 hr).1;omega
     have q1:=dups_len (repB eqA1 ts.facts k)
     have q2:=repB_len eqA1 ts.facts k
     refine stepT oP rP (by simp only [List.length_append];omega) fun av3 mu3 o3 r3 f3=>?_
     obtain ⟨g3,n3⟩:=f3.same st.mu.length (by simp) zP nP
     rw [gP] at g3
     have hwf:=hf ts.facts[k] (List.getElem_mem hlt)
     simp [go_sem,e1,e3,e4,e5,e9,e62,e63,e64,g3,r3]
     refine DrawGo.tail 5 (by kernel_rfl) ?_
     simp [go_sem,e1,e3,e4,e5,e9,e62,e63,e64,g3,r3]
     refine CallStep.pure (checkFormulaU ts h hp ts.facts[k].2 hwf [] ⟨by simp,fun p hp=>absurd hp List.not_mem_nil⟩) (.cons (.hf (hf_eTS ts)) (.cons (WK.lst fun r hr=>absurd hr List.not_mem_nil) (.cons (.hf (hf_eNd _)) .nil))) ?_
     simp [go_sem,e1,e3,e4,e5,e9,e62,e63,e64,g3,r3]
     refine stepR (checkF ts [] ts.facts[k].2) o3 r3 (by simp only [List.length_append];omega) fun av5 mu5 o5 r5 f5=>?_
     simp [go_sem,e1,e3,e4,e5,e9,e62,e63,e64,w1]
     refine ⟨hlt,Keep.mk' ?_⟩
     refine ⟨av5,by simp [go_sem,e1],by simp [go_sem,e3],by simp [go_sem,e4],by simp [go_sem,e5],by simp [go_sem,e9],by simp [go_sem,e62],by simp [go_sem,e63],by simp [go_sem],?_,by simpa [go_sem] using r5⟩
     have e:(List.range (k+1)).flatMap (factD ts ts.facts)=(List.range k).flatMap (factD ts ts.facts)++(dups (repB eqA1 ts.facts k)++rp (checkF ts [] ts.facts[k].2)):=by
      rw [List.range_succ,List.flatMap_append]
      simp only [List.flatMap_cons,List.flatMap_nil,List.append_nil,factD,List.getElem?_eq_getElem hlt]
     rw [e]
     simpa [go_sem,List.append_assoc] using o5
  ·have hlt:k<ts.preds.length:=by omega
   have w1:IntKind.i64.wrap ((k:Int)+1)=(k:Int)+1:=wrap_i64 (by omega) (by omega)
   simp [go_sem,e1,e3,e4,e5,e6,e28,e29,e30,hlt,w1]
   have hrs:rowsOk 1 ((repL eqP1 ts.preds).map fun b=>[aB b]):=fun r hr=>by
    obtain ⟨b,_,rfl⟩:=List.mem_map.1 hr;rfl
   refine ⟨⟨_,_,⟨rfl,rfl⟩,hrs⟩,?_⟩
   rw [if_pos ⟨by omega,by rw [repL_len];omega⟩]
   simp [go_sem]
   have hsl:AV.lst false (List.drop k (List.take (k+1) ((repL eqP1 ts.preds).map fun b=>[aB b])))=lB (repB eqP1 ts.preds k):=by
    simp only [repB,lB,List.map_drop,List.map_take]
   rw [hsl]
   have hpm:=(h.pl ts.preds[k] (List.getElem_mem hlt)).1
   obtain ⟨oP,fP⟩:=ho.push [.arr (cPd ts.preds[k])]
   have rP:(st.mu++[.arr (cPd ts.preds[k])])[1]?=some (.arr [repF]):=by rw [List.getElem?_append_left (List.getElem?_eq_some_iff.1 hr).1];exact hr
   have gP:(st.mu++[.arr (cPd ts.preds[k])])[st.mu.length]?=some (.arr (cPd ts.preds[k])):=by simp
   have nP:blkO av≠some st.mu.length:=own_ne ho.own
   have zP:st.mu.length≠0:=by have:=(List.getElem?_eq_some_iff.1 hr).1;omega
   have q1:=dups_len (repB eqP1 ts.preds k)
   have q2:=repB_len eqP1 ts.preds k
   have q3:=dups_len (repL eqM1 ts.preds[k].params)
   rw [repL_len] at q3
   refine stepT oP rP (by simp only [List.length_append];omega) fun av3 mu3 o3 r3 f3=>?_
   obtain ⟨g3,n3⟩:=f3.same st.mu.length (by simp) zP nP
   rw [gP] at g3
   have hl3:st.mu.length<mu3.length:=(List.getElem?_eq_some_iff.1 g3).1
   simp [go_sem,e1,e3,e4,e5,e6,e28,e29,e30,g3]
   refine CallStep.pure (repPmU _ eqM1 ts.preds[k].params (fun x y _ _=>eq6U x y) (by omega)) (.cons (.hf (hf_lPm _)) (.cons (.hf (hf_f0 _)) .nil)) ?_
   simp [go_sem]
   refine stepT o3 r3 (by simp only [List.length_append,repL_len];omega) fun av4 mu4 o4 r4 f4=>?_
   obtain ⟨g4,n4⟩:=f4.same st.mu.length hl3 zP n3
   rw [g3] at g4
   simp [go_sem,e1,e3,e4,e5,e6,e28,e29,e30,g4]
   have hwp:=hp ts.preds[k] (List.getElem_mem hlt)
   have hpe:=h.pl ts.preds[k] (List.getElem_mem hlt)
   refine DrawGo.tail 9 (by kernel_rfl) ?_
   simp [go_sem,e1,e3,e4,e5,e6,e28,e29,e30,g4,r4]
   refine CallStep.pure (newCheckerU ts h (fun p hq=>(hp p hq).small) k (by omega)) (.cons (.hf (hf_eTS ts)) (.cons (.hf (HF.sc _)) .nil)) ?_
   simp [go_sem,e1,e3,e4,e5,e6,e28,e29,e30,g4,r4]
   refine CallStep.pure (formulaU (mkCk ts k) (okCk_mk h (by omega)) ts.preds[k].body hwp ts.preds[k].params ⟨by omega,hpe.2⟩) (.cons (.hf (hf_eCk _)) (.cons (.hf (hf_lPm _)) (.cons (.hf (hf_eNd _)) .nil))) ?_
   simp [go_sem,e1,e3,e4,e5,e6,e28,e29,e30,g4,r4]
   refine stepR (formK (mkCk ts k) ts.preds[k].params ts.preds[k].body) o4 r4 (by simp only [List.length_append];omega) fun av5 mu5 o5 r5 f5=>?_
   simp [go_sem,e1,e3,e4,e5,e6,e28,e29,e30,w1]
   refine ⟨hlt,Keep.mk' ?_⟩
   refine ⟨av5,by simp [go_sem,e1],by simp [go_sem,e3],by simp [go_sem,e4],by simp [go_sem,e5],by simp [go_sem,e6],by simp [go_sem,e28],by simp [go_sem,e29],by simp [go_sem],?_,by simpa [go_sem] using r5⟩
   have e:(List.range (k+1)).flatMap (predD ts)=(List.range k).flatMap (predD ts)++(dups (repB eqP1 ts.preds k)++(dups (repL eqM1 ts.preds[k].params)++rp (formK (mkCk ts k) ts.preds[k].params ts.preds[k].body))):=by
    rw [List.range_succ,List.flatMap_append]
    simp only [List.flatMap_cons,List.flatMap_nil,List.append_nil,predD,List.getElem?_eq_getElem hlt]
   rw [e]
   simpa [go_sem,List.append_assoc] using o5
end Go.Proofs.YtcfopdccdeeleaaGreatDoor.Y16


namespace Go.Proofs.YtcfopdccdeeleaaGreatDoor.YU
open Go Go.Ev Go.RowKit Go.Proofs Go.Proofs.YtcfopdccdeeleaaGreatDoor.Y16
theorem grow_of1 {w w':World} (h:BelowD w.heap.size w w'):∃ q os,w'=Sort.grow (w.drewN q) os:=by
 refine ⟨w'.drawn-w.drawn,w'.heap.extract w.heap.size w'.heap.size,?_⟩
 have hd:=h.drawn
 have hh:w'.heap=w.heap++w'.heap.extract w.heap.size w'.heap.size:=by
  apply Array.ext_getElem?
  intro i
  by_cases hi:i<w.heap.size
  ·rw [Array.getElem?_append_left hi,h.block i hi]
  ·rw [Array.getElem?_append_right (by omega),Array.getElem?_extract]
   have hs:=h.size
   have e:w.heap.size+(i-w.heap.size)=i:=by omega
   rw [e]
   by_cases hi2:i<w'.heap.size
   ·rw [if_pos (by omega)]
   ·rw [if_neg (by omega),Array.getElem?_eq_none (by omega)]
 obtain ⟨heap',tape',drawn',os',out'⟩:=w'
 obtain ⟨heap,tape,drawn,os,out⟩:=w
 have h1:=h.os
 have h2:=h.tape
 have h3:=h.output
 simp only at h1 h2 h3 hd hh
 subst h1;subst h2;subst h3
 simp only [Sort.grow,World.drewN,World.mk.injEq,and_true,true_and]
 exact ⟨hh,by omega⟩
theorem sort1_sound {P:Program} {f g:FuncId} (hcal:Callable P f) {β:Type} (c:β→AV) (hone:∀ x,(c x).one=true) (ord:β→β→Int) (hf:∀ x,HF (c x))
    (m:Nat) (ms:List β) (hm:ms.length=m+1) (hbig:m+1<4611686018427387904)
    (hcmp:∀ x y,x∈ms→y∈ms→SoundP P g [c x,c y] (.sc (.int .i64 (ord x y))))
    (hirr:∀ x,x∈ms→¬ord x x<0) (htr:∀ x y z,x∈ms→y∈ms→z∈ms→ord x y<0→ord y z<0→ord x z<0) (hnt:∀ x y z,x∈ms→y∈ms→z∈ms→¬ord x y<0→¬ord y z<0→¬ord x z<0)
    (hsort:∀(enc:Fin (m+1)→Value),(∀ x,(enc x).oneCell'=true)→∀(cf:Fin (m+1)→Fin (m+1)→Int),Sort.SWO (Proofs.ltOf cf)→∀(cb:Array Value) (blk off cap:Nat) (d:Array (Fin (m+1))) (w:World),
      Proofs.CmpLays1 P g cb enc cf blk off d.size w→Sort.Holds enc w blk off d→blk<w.heap.size→d.size<4611686018427387904 →
      Calls P f #[.slice (some ⟨blk,off,none⟩) d.size cap,.func (.func g) #[] cb] w fun e w' =>
        e = .returned (.tuple #[])∧∃ d' n os,Sort.PermIn 0 d.size d d'∧Sort.SortedIn (Proofs.ltOf cf) 0 d.size d'∧w'=Proofs.sortWorld enc w blk off n d' os)
    {mu:Mu} {b:Nat} (hc:mu[b]?=some (.arr (ms.map c))) :
    Sound P f [.sl b 1 0 ms.length,.fn (.func g) [] []] mu fun e mu'=>e = .ret (.tup [])∧∃ ms':List β,ms'.Perm ms∧ms'.Pairwise (fun x y=>¬ord y x<0)∧mu'=mu.set b (.arr (ms'.map c)):=by
  refine ⟨hcal,fun G w vs s ra=>?_⟩
  obtain ⟨u,fv,rfl,ru,rf⟩:=ra.two_inv
  cases ru with
  |sl _ _ _ _ blk tot cap hb ht hlc =>
  cases rf with
  |fn _ _ _ fvs cvs hfn hcn hfv hcv =>
  have e0 : fvs = #[] := by have : fvs.size = 0 := by simpa using hfn
                            exact Array.eq_empty_of_size_eq_zero this
  have e1 : cvs = #[] := by have : cvs.size = 0 := by simpa using hcn
                            exact Array.eq_empty_of_size_eq_zero this
  subst e0;subst e1
  obtain ⟨arr,el,h1,h2,h3,h4⟩:=s.arr b _ blk tot hc hb
  have hblk:blk<w.heap.size:=(Array.getElem?_eq_some_iff.1 h1).1
  have hat:∀(i:Nat) (hi:i<ms.length),VRel G w.heap (c ms[i]) (arr.getD i undef):=by
    intro i hi
    have:=h4 i (c ms[i]) (by simp [hi])
    exact this.2
  have hlive:Live G mu blk:=⟨b,_,tot,hc,by simp,hb⟩
  have hni:¬G.imm blk:=s.live b _ blk tot hc (by simp) hb
  generalize henc:(fun i:Fin (m+1)=>arr.getD i.val undef)=enc
  have hence:∀ i:Fin (m+1),enc i=arr.getD i.val undef:=fun i=>by rw [←henc]
  have hil:∀ i:Fin (m+1),i.val<ms.length:=fun i=>by have:=i.isLt;omega
  have henc1:∀ x,(enc x).oneCell'=true:=by
    intro x
    rw [hence]
    exact (hat x.val (hil x)).one (hone _)
  generalize hcf:(fun x y:Fin (m+1)=>ord (ms[x.val]'(hil x)) (ms[y.val]'(hil y)))=cf
  have hcfe:∀ x y:Fin (m+1),cf x y=ord (ms[x.val]'(hil x)) (ms[y.val]'(hil y)):=fun x y=>by rw [←hcf]
  have hmem:∀ x:Fin (m+1),ms[x.val]'(hil x)∈ms:=fun x=>List.getElem_mem _
  have hswo:Sort.SWO (Proofs.ltOf cf):=by
    refine ⟨fun x=>?_,fun x y z g1 g2=>?_,fun x y z g1 g2=>?_⟩
    · simp only [Proofs.ltOf,hcfe,decide_eq_false_iff_not];exact hirr _ (hmem x)
    · simp only [Proofs.ltOf,hcfe,decide_eq_true_eq] at *;exact htr _ _ _ (hmem x) (hmem y) (hmem z) g1 g2
    · simp only [Proofs.ltOf,hcfe,decide_eq_false_iff_not] at *;exact hnt _ _ _ (hmem x) (hmem y) (hmem z) g1 g2
  have hcmpL:Proofs.CmpLays1 P g #[] enc cf blk 0 (m+1) w:=by
    intro m' os dk hdk x y
    generalize hW:Proofs.sortWorld enc w blk 0 m' dk os=W
    have hWh:W.heap=w.heap.modify blk (Sort.onCells (Sort.putCells enc 0 dk))++os:=by rw [←hW];rfl
    have hWsz:w.heap.size≤W.heap.size:=by rw [hWh];simp
    have hWget:∀ b',b'≠blk→b'<w.heap.size→W.heap[b']?=w.heap[b']?:=by
      intro b' hne hlt
      rw [hWh,Array.getElem?_append_left (by simpa using hlt),Array.getElem?_modify,if_neg (fun e=>hne e.symm)]
    have hle:Ext ⟨G.imm,[]⟩ w.heap W.heap:=⟨hWsz,fun b' hb'=>hWget b' (fun e=>hni (e ▸ hb')) (s.imm b' hb')⟩
    have agg:∀ z:Fin (m+1),VRel ⟨G.imm,[]⟩ W.heap (c (ms[z.val]'(hil z))) (enc z):=by
      intro z
      rw [hence]
      exact (hf _ G w.heap _ (hat z.val (hil z))).ext hle
    have rargs:ArgsRel ⟨G.imm,[]⟩ W.heap [c (ms[x.val]'(hil x)),c (ms[y.val]'(hil y))] (#[enc x,enc y]++#[]):=by
      refine ⟨by simp,fun j q hq=>?_⟩
      match j,hq with
      | 0,hq=>simp at hq;subst hq;exact agg x
      | 1,hq=>simp at hq;subst hq;exact agg y
      |j+2,hq=>simp at hq
    refine ((hcmp _ _ (hmem x) (hmem y)).2 G.imm W _ (Sim.empty (fun b' hb'=>Nat.lt_of_lt_of_le (s.imm b' hb') hWsz) (s.tab.mono (fun _ h=>h) fun b' hb'=>hle.keep b' hb')) rargs).mono ?_
    rintro e w' ⟨imm',v,rfl,_,_,hbel,hv⟩
    rw [hcfe]
    obtain ⟨q,os',hw'⟩:=grow_of1 hbel
    refine ⟨?_,q,os',hw'⟩
    cases hv
    rfl
  generalize hd:(List.finRange (m+1)).toArray=d
  have hdsz:d.size=m+1:=by rw [←hd];simp
  have hdg:∀ t (ht:t<m+1),d[t]! = ⟨t,ht⟩:=fun t ht=>by rw [←hd];simp [ht]
  have hal:m+1≤arr.size:=by simp at h3;omega
  have hH:Sort.Holds enc w blk 0 d:=by
    intro t ht
    rw [hdsz] at ht
    refine ⟨?_,?_⟩
    · rw [hdg _ ht,hence]
      simp only [World.cell?,h1,Option.isSome_none,Bool.false_eq_true,if_false,Nat.zero_add]
      rw [Array.getD_eq_getD_getElem?,Array.getElem?_eq_getElem (by omega)]
      rfl
    · simp only [World.frozen?,h1]
      simp
  have hrun:=hsort enc henc1 cf hswo #[] blk 0 cap d w (by rw [hdsz];exact hcmpL) hH hblk (by rw [hdsz];exact hbig)
  rw [hdsz] at hrun
  rw [hm]
  refine hrun.mono ?_
  rintro e w' ⟨rfl,d',n,os,⟨hp1,hp2,hp3⟩,hsrt,hw'⟩
  have hd'sz:d'.size=m+1:=by rw [hp1,hdsz]
  rw [Array.extract_eq_self_of_le (by omega),Array.extract_eq_self_of_le (by omega)] at hp3
  generalize hms':(d'.toList.map fun z:Fin (m+1)=>ms[z.val]'(hil z))=ms'
  have hms'l:ms'.length=m+1:=by rw [←hms'];simp [hd'sz]
  have hms'g:∀(i:Nat) (hi:i<m+1),ms'[i]'(by omega)=ms[(d'[i]'(by omega)).val]'(hil _):=by
    intro i hi
    simp only [←hms',List.getElem_map,Array.getElem_toList]
  have hperm:ms'.Perm ms:=by
    rw [←hms']
    have h1:=hp3.map fun z:Fin (m+1)=>ms[z.val]'(hil z)
    have h2:(d.toList.map fun z:Fin (m+1)=>ms[z.val]'(hil z))=ms:=by
      rw [←hd]
      apply List.ext_getElem
      · simp [hm]
      · intro i hi hi'
        simp
    rw [h2] at h1
    exact h1
  have hpw:ms'.Pairwise (fun x y=>¬ord y x<0):=by
    rw [List.pairwise_iff_getElem]
    intro i j hi hj hij
    have:=hsrt i j (Nat.zero_le _) hij (by omega)
    rw [getElem!_pos d' j (by omega),getElem!_pos d' i (by omega)] at this
    simp only [Proofs.ltOf,hcfe,decide_eq_false_iff_not] at this
    rw [hms'g i (by omega),hms'g j (by omega)]
    exact this
  -- the written row
  have hW0:∃ w1,w1=Sort.putRow enc (Sort.ahead w n) blk 0 d':=⟨_,rfl⟩
  obtain ⟨w1,hw1⟩:=hW0
  have hput:w1.heap[blk]?=some (.cells (Sort.putCells enc 0 d' arr) el (0,0)):=by
    rw [hw1]
    show (w.heap.modify blk (Sort.onCells _))[blk]?=_
    rw [Array.getElem?_modify,if_pos rfl,h1];rfl
  have hoth:∀ j,j≠blk→w1.heap[j]?=w.heap[j]?:=by
    intro j hj
    rw [hw1]
    show (w.heap.modify blk (Sort.onCells _))[j]?=_
    rw [Array.getElem?_modify,if_neg (fun e=>hj e.symm)]
  have hsz1:w1.heap.size=w.heap.size:=by
    rw [hw1]
    show (w.heap.modify blk (Sort.onCells _)).size=_
    simp
  have st1:Stp G mu w G (mu.set b (.arr (ms'.map c))) w1:=by
    refine Stp.write (hdr:=by rw [hw1];exact Nat.le_add_right _ _) s b (.arr (ms.map c)) _ blk tot _ hc (by simp) (by simp) hb hsz1 hput hoth (by rw [hw1];rfl) (by rw [hw1];rfl) (by rw [hw1];rfl) ?_
    refine ⟨_,el,rfl,by simp [Sort.putCells,h2],by rw [List.length_map,hms'l];simp at h3;omega,fun t y hy=>?_⟩
    have ht:t<m+1:=by
      have:=(List.getElem?_eq_some_iff.1 hy).1
      rw [List.length_map,hms'l] at this;exact this
    have hfa:c ms[(d'[t]'(by omega)).val]=y:=by
      rw [List.getElem?_map,List.getElem?_eq_getElem (by omega),hms'g _ ht] at hy
      simpa using hy
    subst hfa
    have hpc:(Sort.putCells enc 0 d' arr).getD t undef=arr.getD (d'[t]'(by omega)).val undef:=by
      have htl:t<arr.size:=by omega
      rw [Array.getD_eq_getD_getElem?,Sort.putCells,Array.getElem?_mapIdx,Array.getElem?_eq_getElem htl]
      simp only [Option.map_some,Option.getD_some,Nat.zero_add,Nat.sub_zero,Nat.zero_le,true_and]
      rw [if_pos (by rw [hd'sz];exact ht),getElem!_pos d' t (by omega),hence]
    rw [hpc]
    exact ⟨hone _,hat _ (hil _)⟩
  have st2:=st1.trans s (Stp.grow st1.sim os)
  have hw2:w'=Sort.grow w1 os:=by rw [hw',hw1];rfl
  rw [←hw2] at st2
  exact ⟨G,_,st2,.inl ⟨_,_,⟨rfl,ms',hperm,hpw,rfl⟩,rfl,.tup [] #[] rfl (by simp)⟩⟩
end Go.Proofs.YtcfopdccdeeleaaGreatDoor.YU


namespace Go.Proofs.YtcfopdccdeeleaaGreatDoor.YV
open Go Go.Ev Go.Proofs Go.Proofs.YtcfopdccdeeleaaGreatDoor YM YS YF P1 P2 Y1 Y2 Y3 Y4 Y5 Y6 Y7 Y8 Y9 Y10 Y11 Y12 Y13 Y14 Y15 Y16 YU
theorem isNaNI (x:Int):SoundP Tryz.prog 146 [aI x] (aB false):=by
 refine SoundP.of_sound (Sound.of_awp Tryz.call146 Tryz.func146 rfl (Nat.le_of_ble_eq_true (by kernel_rfl)) (by kernel_rfl) (pl:={}) ?_)
 simp [go_sem]
 exact .hf _ (HF.sc _)
def cmpI (x y:Int):Int:=if x<y then -1 else if y<x then 1 else 0
theorem compareU (x y:Int):SoundP Tryz.prog 91 [aI x,aI y] (aI (cmpI x y)):=by
 refine SoundP.of_sound (Sound.of_awp Tryz.call91 Tryz.func91 rfl (Nat.le_of_ble_eq_true (by kernel_rfl)) (by kernel_rfl) (pl:={}) ?_)
 simp [go_sem]
 refine CallStep.pure (isNaNI x) (.cons (.hf (HF.sc _)) .nil) ?_
 simp [go_sem]
 refine CallStep.pure (isNaNI y) (.cons (.hf (HF.sc _)) .nil) ?_
 simp [go_sem]
 unfold cmpI
 by_cases h1:x<y
 ·simp [go_sem,h1]
  exact .hf _ (HF.sc _)
 ·by_cases h2:y<x
  ·simp [go_sem,h1,h2]
   exact .hf _ (HF.sc _)
  ·simp [go_sem,h1,h2]
   exact .hf _ (HF.sc _)
def cmpL:List Int→List Int→Int
 | [],[]=>0
 | [],_ :: _ => -1
 |_ :: _,[]=>1
 |x :: a,y :: b=>if cmpI x y=0 then cmpL a b else cmpI x y
theorem cmpL_lt:∀ a b:List Int,cmpL a b<0↔a<b
 | [],[]=>by simp [cmpL]
 | [],_ :: _=>by simp [cmpL]
 |_ :: _,[]=>by simp [cmpL]
 |x :: a,y :: b=>by
  rw [List.cons_lt_cons_iff,←cmpL_lt a b]
  simp only [cmpL,cmpI]
  by_cases h1:x<y
  ·simp [h1]
  ·by_cases h2:y<x
   ·have:x≠y:=by omega
    simp [h1,h2,this]
   ·have:x=y:=by omega
    simp [this]
theorem cmpL_self (a:List Int):cmpL a a=0:=by
 induction a with
 |nil=>rfl
 |cons x a ih=>simp [cmpL,cmpI,ih]
theorem compareLU (a b:List Int) (ha:a.length≤1000) (hb:b.length≤1000):SoundP Tryz.prog 45 [lI a,lI b] (aI (cmpL a b)):=by
 refine SoundP.of_sound (Sound.of_awp Tryz.call45 Tryz.func45 rfl (Nat.le_of_ble_eq_true (by kernel_rfl)) (by kernel_rfl) (pl:={}) ?_)
 simp [go_sem]
 generalize hC:cmpL a b=C
 refine LoopGo.upK a.length (fun k st=>st.tm 0=lI a∧st.tm 1=lI b∧st.tm 9=lI a∧st.tm 10=aI a.length∧st.tm 11=aI k∧k≤b.length∧cmpL (a.drop k) (b.drop k)=C) ?_ ?_
 ·exact ⟨by simp [go_sem],by simp [go_sem],by simp [go_sem],by simp [go_sem],by simp [go_sem],by omega,by simpa using hC⟩
 ·rintro k st hk ⟨e0,e1,e9,e10,e11,hkb,hI⟩
  by_cases hkl:k=a.length
  ·subst hkl
   rw [List.drop_length] at hI
   by_cases hlt:a.length<b.length
   ·rw [List.drop_eq_getElem_cons hlt] at hI
    simp only [cmpL] at hI
    subst hI
    simp [go_sem,e0,e1,e9,e10,e11,hlt]
    exact .hf _ (HF.sc _)
   ·rw [List.drop_of_length_le (by omega)] at hI
    simp only [cmpL] at hI
    subst hI
    simp [go_sem,e0,e1,e9,e10,e11,hlt]
    exact .hf _ (HF.sc _)
  ·have hlt:k<a.length:=by omega
   have w1:IntKind.i64.wrap ((k:Int)+1)=(k:Int)+1:=wrap_i64 (by omega) (by omega)
   rw [List.drop_eq_getElem_cons hlt] at hI
   by_cases hb2:b.length≤k
   ·rw [List.drop_of_length_le hb2] at hI
    simp only [cmpL] at hI
    subst hI
    simp [go_sem,e0,e1,e9,e10,e11,hlt,hb2]
    exact .hf _ (HF.sc _)
   ·have hlb:k<b.length:=by omega
    rw [List.drop_eq_getElem_cons hlb] at hI
    simp only [cmpL] at hI
    simp [go_sem,e0,e1,e9,e10,e11,hlt,hb2,hlb]
    refine CallStep.pure (compareU a[k] b[k]) (.cons (.hf (HF.sc _)) (.cons (.hf (HF.sc _)) .nil)) ?_
    by_cases hz:cmpI a[k] b[k]=0
    ·rw [if_pos hz] at hI
     simp [go_sem,e0,e1,e9,e10,e11,hz,w1]
     refine ⟨hlt,Keep.mk' ?_⟩
     exact ⟨by simp [go_sem,e0],by simp [go_sem,e1],by simp [go_sem,e9],by simp [go_sem,e10],by simp [go_sem],by omega,hI⟩
    ·rw [if_neg hz] at hI
     subst hI
     simp [go_sem,e0,e1,e9,e10,e11,hz,w1]
     exact .hf _ (HF.sc _)
def insL (x:List Int):List (List Int)→List (List Int)
 | []=>[x]
 |y :: l=>if y<x then y :: insL x l else x :: y :: l
def srt (l:List (List Int)):List (List Int):=l.foldr insL []
theorem insL_perm (x:List Int):∀ l,(insL x l).Perm (x :: l)
 | [] => .refl _
 |y :: l=>by
  simp only [insL]
  split
  ·exact ((insL_perm x l).cons y).trans (.swap x y l)
  ·exact .refl _
theorem srt_perm:∀ l,(srt l).Perm l
 | [] => .refl _
 |x :: l=>(insL_perm x (srt l)).trans ((srt_perm l).cons x)
theorem insL_sorted (x:List Int):∀ l:List (List Int),l.Pairwise (·≤·)→(insL x l).Pairwise (·≤·)
 | [],_=>by simp [insL]
 |y :: l,h=>by
  rw [List.pairwise_cons] at h
  simp only [insL]
  split
  ·rename_i hlt
   rw [List.pairwise_cons]
   refine ⟨fun z hz=>?_,insL_sorted x l h.2⟩
   rcases List.mem_cons.1 ((insL_perm x l).mem_iff.1 hz) with rfl | hz
   ·exact List.le_of_lt hlt
   ·exact h.1 z hz
  ·rename_i hlt
   have hle:x≤y:=List.not_lt.1 hlt
   rw [List.pairwise_cons,List.pairwise_cons]
   refine ⟨fun z hz=>?_,h⟩
   rcases List.mem_cons.1 hz with rfl | hz
   ·exact hle
   ·exact List.le_trans hle (h.1 z hz)
theorem srt_sorted:∀ l,(srt l).Pairwise (·≤·)
 | [] => .nil
 |x :: l=>insL_sorted x (srt l) (srt_sorted l)
theorem sorted_eq {l l':List (List Int)} (hp:l'.Perm l) (hs:l'.Pairwise fun x y=>¬cmpL y x<0):l'=srt l:=by
 refine List.Perm.eq_of_pairwise (le:=(·≤·)) (fun a b _ _ h1 h2=>List.le_antisymm h1 h2) (hs.imp fun h=>?_) (srt_sorted l) (hp.trans (srt_perm l).symm)
 rw [cmpL_lt] at h
 exact List.not_lt.1 h
end Go.Proofs.YtcfopdccdeeleaaGreatDoor.YV


namespace Go.Proofs.YtcfopdccdeeleaaGreatDoor.YW
open Go Go.Ev Go.Proofs Go.Proofs.YtcfopdccdeeleaaGreatDoor YM YS YF P1 P2 Y1 Y2 Y3 Y4 Y5 Y6 Y7 Y8 Y9 Y10 Y11 Y12 Y13 Y14 Y15 Y16 YU YV
theorem okKd.le64 {ns:Nat} {k:Kd} (h:okKd ns k) (hns:ns≤4):k.ts.length≤64:=by
 have hsub:∀ t,t∈k.ts→t∈([0,1,2,3]:List Int).flatMap fun a=>([0,1,2,3]:List Int).flatMap fun b=>([0,1,2,3]:List Int).map fun c=>[a,b,c]:=fun t ht=>by
  obtain ⟨l,rfl,hl,hr⟩:=h.ts t ht
  have hl3:=h.ar.2
  have four':∀ x:Int,0≤x→x<ns→x∈([0,1,2,3]:List Int):=fun x h1 h2=>by simp;omega
  match l,hl,hr with
  | [],hl,hr=>simp [pad]
  | [a],hl,hr =>
   have:=four' a (hr a (by simp)).1 (hr a (by simp)).2
   simp only [List.mem_flatMap,List.mem_map]
   exact ⟨a,this,0,by simp,0,by simp,by simp [pad]⟩
  | [a,b],hl,hr =>
   have h1:=four' a (hr a (by simp)).1 (hr a (by simp)).2
   have h2:=four' b (hr b (by simp)).1 (hr b (by simp)).2
   simp only [List.mem_flatMap,List.mem_map]
   exact ⟨a,h1,b,h2,0,by simp,by simp [pad]⟩
  | [a,b,c],hl,hr =>
   have h1:=four' a (hr a (by simp)).1 (hr a (by simp)).2
   have h2:=four' b (hr b (by simp)).1 (hr b (by simp)).2
   have h3:=four' c (hr c (by simp)).1 (hr c (by simp)).2
   simp only [List.mem_flatMap,List.mem_map]
   exact ⟨a,h1,b,h2,c,h3,by simp [pad]⟩
  |_ :: _ :: _ :: _ :: _,hl,hr=>simp at hl;omega
 have:=List.Nodup.length_le_of_subset h.nd hsub
 simpa using this
theorem okKd.sm {ns:Nat} {k:Kd} (h:okKd ns k) (hns:ns≤4) {t:Tp} (ht:t∈k.ts):∀ x,x∈t→0≤x∧x<128:=fun x hx=>by
 obtain ⟨l,rfl,hl,hr⟩:=h.ts t ht
 have hl3:=h.ar.2
 match l,hl,hr with
 | [],hl,hr=>simp [pad] at hx;omega
 | [a],hl,hr =>
  have:=hr a (by simp)
  simp [pad] at hx;omega
 | [a,b],hl,hr =>
  have:=hr a (by simp)
  have:=hr b (by simp)
  simp [pad] at hx;omega
 | [a,b,c],hl,hr =>
  have:=hr a (by simp)
  have:=hr b (by simp)
  have:=hr c (by simp)
  simp [pad] at hx;omega
 |_ :: _ :: _ :: _ :: _,hl,hr=>simp at hl;omega
theorem kd_rel {n:Nd} (hw:WfN n) (h:¬ 20≤n.op):kd n.op=101:=by
 have hs:=hw.shape
 refine kd_101 ?_
 unfold shp at hs
 repeat' split at hs
 all_goals first | omega | exact absurd hs (by simp)
theorem examL_err (c:Ck) (s:Scp) (inn:Bool) {ks:List Nd} (hk:∀ k,k∈ks→∀ e,exam c s inn k = .error e→e.1≠0) {e:Dg} (h:examL c s inn ks = .error e):e.1≠0:=by
 induction ks with
 |nil=>simp [examL] at h
 |cons k ks ih =>
  simp only [examL] at h
  split at h
  ·rename_i e' hx
   cases h
   exact hk k (List.mem_cons_self ..) _ hx
  ·split at h
   ·rename_i e' hx
    cases h
    exact ih (fun k hm=>hk k (List.mem_cons_of_mem _ hm)) hx
   ·cases h
theorem examA_err (c:Ck) (s:Scp) (pos:Int) {ks:List Nd} (hk:∀ k,k∈ks→∀ e,exam c s true k = .error e→e.1≠0):∀{ps:List (ByteArray×Int)} {e:Dg},examA c s pos ps ks = .error e→e.1≠0:=by
 induction ks with
 |nil=>intro ps e h;cases ps<;>simp [examA] at h
 |cons k ks ih =>
  intro ps e h
  cases ps with
  |nil=>simp [examA] at h
  |cons p ps =>
   simp only [examA] at h
   split at h
   ·rename_i e' hx
    cases h
    exact hk k (List.mem_cons_self ..) _ hx
   ·cases h;simp
   ·split at h
    ·split at h
     ·exact ih (fun k hm=>hk k (List.mem_cons_of_mem _ hm)) h
     ·cases h;simp
    ·cases h;simp
theorem exam_err (c:Ck):∀(m:Nat) (n:Nd) (s:Scp) (inn:Bool) (e:Dg),szN n≤m→exam c s inn n = .error e→e.1≠0
 | 0,n,_,_,_,hm,_=>by obtain ⟨op,nm,i,ks,p⟩:=n;simp [szN] at hm
 |m+1,n,s,inn,e,hm,h=>by
  have ih:∀ k,k∈n.kids→∀ s inn e,exam c s inn k = .error e→e.1≠0:=fun k hk s inn e hx=>exam_err c m k s inn e (by have:=kid_lt hk;omega) hx
  rw [exam_eq] at h
  split at h
  ·cases h;simp
  split at h
  ·unfold nameK at h
   split at h
   ·cases h
   ·split at h<;>first | (cases h;simp) | cases h
  split at h
  ·split at h
   ·split at h
    ·cases h;simp
    ·split at h
     ·cases h;simp
     ·split at h
      ·exact examA_err c s n.pos (fun k hk e hx=>ih k hk s true e hx) h
      ·cases h;simp
   ·cases h;simp
  split at h
  ·revert h ih
   match n.kids with
   | []=>intro ih h;simp [examB] at h
   |k :: ks =>
    intro ih h
    simp only [examB] at h
    split at h
    ·rename_i e' hx
     cases h
     exact ih k (List.mem_cons_self ..) _ _ _ hx
    ·cases h;simp
    ·split at h
     ·split at h
      ·rename_i e' hx
       cases h
       exact examL_err c _ _ (fun k hk e hx=>ih k (List.mem_cons_of_mem _ hk) _ _ e hx) hx
      ·cases h
     ·cases h;simp
  ·split at h
   ·rename_i e' hx
    cases h
    exact examL_err c _ _ (fun k hk e hx=>ih k hk _ _ e hx) hx
   ·unfold applyK at h
    repeat' split at h
    all_goals first | (cases h;done) | (cases h;simp)
theorem type1U (ts:TS) (h:okTS ts) (hp:∀ p,p∈ts.preds→WfN p.body) (n:Nd) (hw:WfN n) (env:List (ByteArray×Int)) (he:okEnv ts.sorts.length env) {mu:Mu} {b:Nat} (hb:mu[b]?=some (.arr (cKo none))) :
  Sound Tryz.prog 40 [.ip (cTS ts),.ip [lPm env],.ip (cNd n),.ptr b 0] mu fun e m=>match exam (mkCk ts ts.preds.length) (bindL env) false n with
   | .ok ko=>e = .ret (.tup [])∧m=mu.set b (.arr (cKo ko))
   | .error d=>e = .pan (stopV d.1 d.2)∧m=mu:=by
 refine Sound.of_awp Tryz.call40 Tryz.func40 rfl (Nat.le_of_ble_eq_true (by kernel_rfl)) (by kernel_rfl) (pl:={}) ?_
 have hck:=okCk_mk h (Nat.le_refl ts.preds.length)
 have hx:=examineU (mkCk ts ts.preds.length) hck (szN n) n (Nat.le_refl _) hw (bindL env) (scOk_bind he) false
 generalize hE:exam (mkCk ts ts.preds.length) (bindL env) false n=E at hx
 have hbl:b<mu.length:=(List.getElem?_eq_some_iff.1 hb).1
 simp [go_sem]
 refine DrawGo.tail 8 (by kernel_rfl) ?_
 simp [go_sem]
 refine CallStep.pure (newCheckerU ts h (fun p hq=>(hp p hq).small) _ (Nat.le_refl _)) (.cons (.hf (hf_eTS ts)) (.cons (.hf (HF.sc _)) .nil)) ?_
 simp [go_sem]
 refine CallStep.pure (bindU _ h.ns env he.len he.r) (.cons (.hf (hf_lPm env)) .nil) ?_
 simp [go_sem]
 have hwe:WKs [eCk (mkCk ts ts.preds.length),aSc (bindL env),eNd n,aB false] [eCk (mkCk ts ts.preds.length),aSc (bindL env),eNd n,aB false] := .cons (.hf (hf_eCk _)) (.cons (.hf (hf_aSc _)) (.cons (.hf (hf_eNd n)) (.cons (.hf (HF.sc _)) .nil)))
 cases E with
 |error d =>
  refine CallStep.pans hx hwe ?_
  simp [go_sem]
 |ok ko =>
  refine CallStep.pure hx.toP hwe ?_
  have hb':mu[b]?=some (.arr [aI 0,.sc (.map none)]):=hb
  cases ko<;>simp [go_sem,hb',cKo]
def rowT (k:Kd) (t:Tp):List Int:=t.take k.ar.toNat
def typeL (k:Kd):List (List Int):=srt (k.ts.map (rowT k))
def typeK (ts:TS) (env:List (ByteArray×Int)) (n:Nd):List (List Int)×Int:=
 if 20≤n.op then ([],43) else
 match exam (mkCk ts ts.preds.length) (bindL env) false n with
 | .error d=>([],d.1)
 | .ok (some k)=>(typeL k,0)
 | .ok none=>([],0)
theorem rd_typ (mu:Mu) (e:Int):Rd mu (.tup [.lst true [],aI e]) (.tup [lL [],aI e]) := .tup _ _ rfl fun k x y hx hy=>by
 match k,hx,hy with
 | 0,hx,hy=>simp at hx hy;subst hx;subst hy;exact .wk _ true _ (.hf _ (HF.lst fun r hr=>absurd hr List.not_mem_nil))
 | 1,hx,hy=>simp at hx hy;subst hx;subst hy;exact .hf _ (HF.sc _)
 |k+2,hx,hy=>simp at hx
theorem appendGs {P:Program} {x':AV} (give:Nat→Bool) {lo:Nat} {mu:Mu} {t t' e sz bt:Nat} {s x:AV} {xs ys:List (List AV)} {zv:AV} {K:AV→Mu→Prop} (hs:sliceOf P t=some (e,sz,bt)) (hs':(sliceOf P t').isSome=true) (hz:zeroOf P e=some zv)
  (hz1:zv.cells.length=sz) (hz2:zv.cells.all AV.one=true) (hz0:sz≠0) (hb:bt≤16384) (hrd:Rd (cutM give mu 0) x x') (ho:OwnF lo (cutM (fun i=>!give i) mu 0) sz s xs) (hx:rowsOf (cutM (fun i=>!give i) mu 0) x'=some ys) (wx:rowsWf sz xs) (wy:rowsWf sz ys) (hl:xs.length+ys.length≤4294967296) (hne:ys≠[])
  (k:∀ b mu',OwnF lo mu' sz (.sl b sz 0 (xs++ys).length) (xs++ys)→(∀ i,i<lo→mu'[i]?=(cutM (fun i=>!give i) mu 0)[i]?)→K (.sl b sz 0 (xs++ys).length) mu'):AppendStep P mu #[t,t'] s x K:=by
 refine .inr ⟨give,x',hrd,?_⟩
 generalize cutM (fun i=>!give i) mu 0=mu at *
 obtain ⟨ho,hlo,hlm⟩:=ho
 refine ⟨t,t',e,sz,bt,ys,rfl,hs,hs',⟨zv,hz,hz1,hz2⟩,hz0,hb,hx,wy,?_⟩
 rcases ho with rfl | ⟨b,rfl,hc⟩
 ·refine .inl ⟨xs,rfl,wx,hl,fun h=>absurd h hne,fun h=>?_⟩
  rw [←List.length_append]
  refine k _ _ ⟨.inr ⟨mu.length,rfl,by simp⟩,fun b s o l e=>?_,by simp;omega⟩ (fun i hi=>?_)
  ·injection e;omega
  ·rw [List.getElem?_append_left (by omega)]
 ·have hfl:=flatten_len wx.ok
  have hbl:=hlo _ _ _ _ rfl
  refine .inr ⟨b,xs.length,xs.flatten,rfl,hc,by omega,hl,?_⟩
  have htk:xs.flatten.take (xs.length*sz)=xs.flatten:=List.take_of_length_le (by omega)
  rw [←List.length_append]
  refine k _ _ ⟨.inr ⟨mu.length,rfl,?_⟩,fun b s o l e=>?_,by simp;omega⟩ (fun i hi=>?_)
  ·rw [htk,List.getElem?_append_right (by simp)];simp
  ·injection e;omega
  ·rw [List.getElem?_append_left (by simp;omega)]
   rw [List.getElem?_set_ne (by omega)]
theorem rd_row1 {mu:Mu} {x y:AV} (h:Rd mu x y):Rd mu (.lst true [[x]]) (.lst true [[y]]):=by
 refine .lst true _ _ rfl (fun k a b ha hb=>?_) (fun k a b ha hb=>?_)
 ·cases k with
  |zero=>simp at ha hb;subst ha;subst hb;rfl
  |succ k=>simp at ha
 ·cases k with
  |zero=>simp at ha hb;subst ha;subst hb;exact h
  |succ k=>simp at ha
theorem rows_seen (f:Nat→List Int) (l:List Nat):rowsWf 1 (l.map fun i=>rL (f i)):=fun r hr=>by
 obtain ⟨i,_,rfl⟩:=List.mem_map.1 hr
 exact ⟨rfl,rfl⟩
theorem rd_typ2 {mu:Mu} {av x:AV} (h:Rd mu av x) (e:Int):Rd mu (.tup [av,aI e]) (.tup [x,aI e]) := .tup _ _ rfl fun k x y hx hy=>by
 match k,hx,hy with
 | 0,hx,hy=>simp at hx hy;subst hx;subst hy;exact h
 | 1,hx,hy=>simp at hx hy;subst hx;subst hy;exact .hf _ (HF.sc _)
 |k+2,hx,hy=>simp at hx
theorem seen_rows {α β:Type} {l:List α} {d:α} (f:α→β) {seen:List Nat} (hnd:seen.Nodup) (hlt:∀ i,i∈seen→i<l.length) (hall:∀ i,i<l.length→i∈seen):(seen.map fun i=>f (l.getD i d)).Perm (l.map f):=by
 have h1:seen.Perm (List.range l.length):=by
  rw [List.perm_ext_iff_of_nodup hnd List.nodup_range]
  exact fun i=>⟨fun h=>List.mem_range.2 (hlt i h),fun h=>hall i (List.mem_range.1 h)⟩
 have h2:=h1.map fun i=>f (l.getD i d)
 have h3:((List.range l.length).map fun i=>f (l.getD i d))=l.map f:=by
  apply List.ext_getElem?
  intro i
  by_cases hi:i<l.length
  ·simp [hi]
  ·simp [hi]
 rwa [h3] at h2
theorem sort0U {mu:Mu} {av fa:AV} (h:∀ G (hp:Array Obj) v,VRel G hp av v→∃ p cap,v = .slice p 0 cap):Sound Tryz.prog 44 [av,fa] mu fun e mu'=>e = .ret (.tup [])∧mu'=mu:=by
 refine ⟨Tryz.call44,fun G w vs s ra=>?_⟩
 obtain ⟨u,fv,rfl,ru,rf⟩:=ra.two_inv
 obtain ⟨p,cap,rfl⟩:=h _ _ _ ru
 refine (AnyF.slices_SortFunc_none (P:=Tryz.prog) (ρ:=Tryz.laysSF1_ren) { Tryz.laysSF1 with } p cap fv w).mono ?_
 rintro e w' ⟨rfl,rfl⟩
 exact ⟨G,mu,Stp.ahead s 0,.inl ⟨_,_,⟨rfl,rfl⟩,rfl,.tup [] #[] rfl (by simp)⟩⟩
theorem sortLU {mu:Mu} {av:AV} {L:List (List Int)} (ho:Own mu 1 av (L.map rL)) (hn:∀ zs,av = .lst true zs→zs=[]) (hl:L.length≤64) (hx:∀ x,x∈L→x.length≤3) :
  Sound Tryz.prog 44 [av,.fn (.func 45) [] []] mu fun e mu'=>e = .ret (.tup [])∧∃ L':List (List Int),L'.Perm L∧L'.Pairwise (fun x y=>¬cmpL y x<0)∧Rd mu' av (lL L'):=by
 have rdL:∀{mu:Mu} {b:Nat} {l:List (List Int)},mu[b]?=some (.arr (l.map lI))→Rd mu (.sl b 1 0 l.length) (lL l):=fun {mu b l} h=>by
  have ho:Own mu 1 (.sl b 1 0 l.length) (l.map rL) := .inr ⟨b,by simp,by
   rw [h]
   congr 2
   clear h
   induction l with
   |nil=>rfl
   |cons a l ih=>simp [ih]⟩
  exact ho.rd (rows_rL _).ok fun r hr c hc=>by
   obtain ⟨q,_,rfl⟩:=List.mem_map.1 hr
   rw [List.mem_singleton] at hc;subst hc
   exact hf_lI q
 by_cases hL0:L=[]
 ·subst hL0
  refine Sound.monoR (sort0U (mu:=mu) (av:=av) ?_) ?_
  ·intro G hp v r
   rcases ho with rfl | ⟨b,rfl,hc⟩
   ·cases r with
    |nil=>exact ⟨_,_,rfl⟩
    |emp _ a cap hc=>exact ⟨_,_,rfl⟩
    |lst _ _ sz a cap cs e fr rd hb hs hl hc hi hz hr hv=>exact ⟨_,_,rfl⟩
   ·cases r with
    |sl _ _ _ _ blk tot cap hb ht hlc=>exact ⟨_,_,rfl⟩
  ·rintro e m ⟨rfl,rfl⟩
   refine ⟨rfl,[],.refl _,.nil,?_⟩
   rcases ho with rfl | ⟨b,rfl,hc⟩
   ·exact .wk _ true _ (.hf _ (HF.lst fun r hr=>absurd hr List.not_mem_nil))
   ·exact rdL (l:=[]) hc
 rcases ho with ho | ⟨b,rfl,hc⟩
 ·have hz:=hn _ ho
  exact absurd (by simpa using hz) hL0
 ·have hfl:(L.map rL).flatten=L.map lI:=by
   clear hc hn hl hx hL0
   induction L with
   |nil=>rfl
   |cons a l ih=>simp [ih]
  rw [hfl] at hc
  rw [List.length_map]
  obtain ⟨m,hm⟩:∃ m,L.length=m+1:=⟨L.length-1,by
   have:L.length≠0:=fun h=>hL0 (List.eq_nil_of_length_eq_zero h)
   omega⟩
  refine Sound.monoR (sort1_sound (g:=45) Tryz.call44 lI (fun _=>rfl) cmpL hf_lI m L hm (by omega) (fun x y h1 h2=>compareLU x y (by have:=hx x h1;omega) (by have:=hx y h2;omega)) (fun x _=>by rw [cmpL_self];omega) (fun x y z _ _ _ h1 h2=>?_) (fun x y z _ _ _ h1 h2=>?_) ?_ hc) ?_
  ·rw [cmpL_lt] at *;exact List.lt_trans h1 h2
  ·rw [cmpL_lt] at *;exact List.not_lt.2 (List.le_trans (List.not_lt.1 h2) (List.not_lt.1 h1))
  ·intro enc h1 cf hO cb blk off cap d w h3 h4 h5 h6
   exact Any.slices_SortFunc Tryz.laysSF1 enc h1 cf hO 45 cb blk off cap d w Tryz.call45 h3 h4 h5 h6
  ·rintro e m' ⟨rfl,L',hp,hs,rfl⟩
   refine ⟨rfl,L',hp,hs,?_⟩
   rw [←hp.length_eq]
   exact rdL (List.getElem?_set_self (List.getElem?_eq_some_iff.1 hc).1)
theorem typeU (ts:TS) (h:okTS ts) (hp:∀ p,p∈ts.preds→WfN p.body) (n:Nd) (hw:WfN n) (env:List (ByteArray×Int)) (he:okEnv ts.sorts.length env):SoundP Tryz.prog 16 [eTS ts,lPm env,eNd n] (.tup [lL (typeK ts env n).1,aI (typeK ts env n).2]):=by
 refine SoundP.of_sound (Sound.of_awp Tryz.call16 Tryz.func16 rfl (Nat.le_of_ble_eq_true (by kernel_rfl)) (by kernel_rfl) (pl:={}) ?_)
 by_cases h20:20≤n.op
 ·simp [go_sem,h20,typeK]
  exact rd_typ [] 43
 ·simp [go_sem,h20]
  have hcap:WKs [.ip (cTS ts),.ip [lPm env],.ip (cNd n)] [.ip (cTS ts),.ip [lPm env],.ip (cNd n)] := .cons (.hf (HF.ip (hf_cTS ts))) (.cons (.hf (HF.ip (by simp;exact hf_lPm env))) (.cons (.hf (HF.ip (hf_cNd n))) .nil))
  have h1:=type1U ts h hp n hw env he (mu:=[.arr (cKo none)]++[.dead]) (b:=0) rfl
  have hok:=exam_ok (okCk_mk h (Nat.le_refl ts.preds.length)) (szN n) n (bindL env) false
  refine CallStep.eff0 (caughtU (mu:=[.arr (cKo none)]) h1 ?_) ?_ ?_
  ·intro v m hv
   split at hv
   ·exact absurd hv.1 (by simp)
   ·cases hv.1;exact ⟨_,_,rfl⟩
  ·rintro r m ⟨m',x,⟨l,rfl⟩,⟨r',hv,hr⟩ | ⟨er,p,hv,hr⟩⟩
   ·cases hr
    split at hv
    ·rename_i ko hE
     obtain ⟨_,rfl⟩:=hv
     have hkd:kd n.op=101:=kd_rel hw h20
     obtain ⟨k,rfl,hk⟩:=hok ko (Nat.le_refl _) hw (scOk_bind he) hE hkd
     have htk:typeK ts env n=(typeL k,0):=by
      unfold typeK
      rw [if_neg h20,hE]
     rw [htk]
     simp [go_sem]
     refine LoopGo.seen k.ts.length (fun seen st=>st.tm 8 = .ptr 0 0∧st.tm 27 = .ptr (l.length+3) 0∧st.mu[0]?=some (.arr (cKd k))∧st.mu[l.length+3]?=some (.it (eT k.ts) seen) ∧
      OwnF (l.length+4) st.mu 1 (st.tm 10) (seen.map fun i=>rL (rowT k (k.ts.getD i [])))∧∀ zs,st.tm 10 = .lst true zs→zs=[]) ?_ ?_
     ·refine ⟨by simp [go_sem],by simp [go_sem],by simp [go_sem],by simp [go_sem],?_,fun zs e=>?_⟩
      ·simp [go_sem]
       exact OwnF.nil (by simp)
      ·simp [go_sem] at e
       exact e
     ·rintro seen st hnd hlt ⟨e8,e27,m0,mi,ho,hnl⟩
      have hil:l.length+3<st.mu.length:=(List.getElem?_eq_some_iff.1 mi).1
      have hsl:seen.length≤k.ts.length:=seen_len _ _ hnd hlt
      have hkl:=okKd.le64 hk h.ns
      simp [go_sem,e8,e27]
      refine ⟨l.length+3,eT k.ts,seen,rfl,mi,fun i e hi hns=>?_,fun hdone=>?_⟩
      ·obtain ⟨t,ht,rfl⟩:=eT_get hi
       have hto:=hk.okK.len t (List.mem_of_getElem? ht)
       have hit:i<k.ts.length:=(List.getElem?_eq_some_iff.1 ht).1
       have m0':∀(c:Cell) (lc:List Cell),((st.mu.set (l.length+3) c)++lc)[0]?=some (.arr (cKd k)):=fun c lc=>by
        rw [List.getElem?_append_left (by simp;omega),List.getElem?_set_ne (by omega)];exact m0
       obtain ⟨x0,x1,x2,rfl⟩:∃ x0 x1 x2,t=[x0,x1,x2]:=by
        match t,hto with
        | [x0,x1,x2],_=>exact ⟨_,_,_,rfl⟩
       have hq:∀(c c2:Cell),((st.mu.set (l.length+3) c)++[c2])[st.mu.length]?=some c2:=fun c c2=>by
        rw [List.getElem?_append_right (by simp)];simp
       simp [go_sem,-getElem?_pos,hq,List.getElem?_cons_zero,List.getElem?_cons_succ,e8,e27,hi,hil,hns,mi,m0']
       have har:=hk.ar
       obtain ⟨a,ha⟩:∃ a:Nat,k.ar=a:=⟨k.ar.toNat,by omega⟩
       have ha3:a≤3:=by omega
       rw [ha,if_pos (by omega)]
       simp [go_sem]
       generalize hM:st.mu.set (l.length+3) (Cell.it (eT k.ts) (seen++[i]))++[Cell.arr [AV.sc (Value.int IntKind.i8 x0),AV.sc (Value.int IntKind.i8 x1),AV.sc (Value.int IntKind.i8 x2)]]=M at *
       have hMl:M.length=st.mu.length+1:=by rw [←hM];simp
       have hMq:M[st.mu.length]?=some (.arr [AV.sc (Value.int IntKind.i8 x0),AV.sc (Value.int IntKind.i8 x1),AV.sc (Value.int IntKind.i8 x2)]):=by rw [←hM];exact hq _ _
       refine LoopGo.upK a (fun j s=>s.tm 8 = .ptr 0 0∧s.tm 27 = .ptr (l.length+3) 0∧s.tm 10=st.tm 10∧s.tm 34 = .sl st.mu.length 0 0 a∧s.tm 35=aI a∧s.tm 36=aI j∧(∀ i,i<M.length→s.mu[i]?=M[i]?)∧OwnF M.length s.mu 1 (s.tm 12) (([x0,x1,x2].take j).map rI)) ?_ ?_
       ·refine ⟨by simp [go_sem,e8],by simp [go_sem,e27],by simp [go_sem],by simp [go_sem],by simp [go_sem],by simp [go_sem],by simp [go_sem],?_⟩
        simp [go_sem]
        exact OwnF.nil (Nat.le_refl _)
       ·rintro j s hj ⟨f8,f27,f10,f34,f35,f36,fm,fo⟩
        have fq:s.mu[st.mu.length]?=some (.arr [AV.sc (Value.int IntKind.i8 x0),AV.sc (Value.int IntKind.i8 x1),AV.sc (Value.int IntKind.i8 x2)]):=by rw [fm _ (by omega)];exact hMq
        by_cases hja:j=a
        ·subst hja
         have g1:=fo.cells
         have g2:=fo.one
         simp [go_sem,f8,f27,f10,f34,f35,f36,g1,g2]
         have hrow:(([x0,x1,x2]:List Int).take j)=rowT k (k.ts.getD i []):=by
          rw [List.getD_eq_getElem?_getD,ht]
          simp [rowT,ha]
         rw [hrow] at fo
         have hgive:∀ i,i<M.length→(cutM (fun i=>!decide (M.length≤i)) s.mu 0)[i]?=M[i]?:=fun i hi=>by
          rw [cutM_get,←fm i hi]
          simp only [Nat.zero_add,show ¬M.length≤i by omega,decide_false,Bool.not_false,if_true]
          cases s.mu[i]?<;>rfl
         have hoM:OwnF (l.length+4) (cutM (fun i=>!decide (M.length≤i)) s.mu 0) 1 (st.tm 10) (seen.map fun i=>rL (rowT k (k.ts.getD i []))):=by
          obtain ⟨o1,o2,o3⟩:=ho
          refine ⟨?_,o2,by rw [cutM_len];have:=fo.2.2;omega⟩
          rcases o1 with o1 | ⟨b,o1,hc⟩
          ·exact .inl o1
          ·have hb1:=o2 _ _ _ _ o1
           have hb2:=(List.getElem?_eq_some_iff.1 hc).1
           refine .inr ⟨b,o1,?_⟩
           rw [hgive b (by omega),←hM,List.getElem?_append_left (by simpa using hb2),List.getElem?_set_ne (by omega)]
           exact hc
         have hrd:Rd (cutM (fun i=>decide (M.length≤i)) s.mu 0) (s.tm 12) (lI (rowT k (k.ts.getD i []))):=ownF_rdCut fo (rows_rI _).ok fun r hr c hc=>by
          obtain ⟨q,_,rfl⟩:=List.mem_map.1 hr
          rw [List.mem_singleton] at hc;subst hc
          exact HF.sc _
         refine appendGs (x' := .lst true [[lI (rowT k (k.ts.getD i []))]]) (fun i=>decide (M.length≤i)) (lo:=l.length+4) (e:=52) (sz:=1) (bt:=24) (zv := .lst true []) (xs:=seen.map fun i=>rL (rowT k (k.ts.getD i []))) (ys:=[rL (rowT k (k.ts.getD i []))]) (by simp [go_sem]) (by simp [go_sem]) (by simp [go_sem]) rfl rfl (by omega) (by omega) (rd_row1 hrd) hoM (by simp [rowsOf]) (rows_seen _ _) (rows_seen (fun i=>rowT k (k.ts.getD i [])) [i]) (by simp;omega) (by simp) ?_
         intro av mu' ho' hm'
         simp [go_sem,f8,f27,f10,f34,f35,f36]
         refine ⟨i,hit,hns,Keep.mk' ?_⟩
         refine ⟨by simp [go_sem,f8],by simp [go_sem,f27],?_,?_,?_,fun zs e=>by simp [go_sem] at e⟩
         ·simp only [put_mu]
          rw [hm' 0 (by omega),hgive 0 (by omega),←hM]
          exact m0' _ _
         ·simp only [put_mu]
          rw [hm' _ (by omega),hgive _ (by omega),←hM,List.getElem?_append_left (by simpa using hil),List.getElem?_set_self hil]
         ·rw [List.map_append]
          simpa [go_sem] using ho'
        ·have hlt:j<a:=by omega
         have w1:IntKind.i64.wrap ((j:Int)+1)=(j:Int)+1:=wrap_i64 (by omega) (by omega)
         have hj3:j=0∨j=1∨j=2:=by omega
         have z1:IntKind.i64.wrap 1=1:=rfl
         have z2:IntKind.i64.wrap 2=2:=rfl
         have z3:IntKind.i64.wrap 3=3:=rfl
         have hx8:∀ x,x∈[x0,x1,x2]→0≤x∧x<128:=okKd.sm hk h.ns (List.mem_of_getElem? ht)
         have v0:=hx8 x0 (by simp)
         have v1:=hx8 x1 (by simp)
         have v2:=hx8 x2 (by simp)
         have u0:IntKind.i64.wrap x0=x0:=wrap_i64 (by omega) (by omega)
         have u1:IntKind.i64.wrap x1=x1:=wrap_i64 (by omega) (by omega)
         have u2:IntKind.i64.wrap x2=x2:=wrap_i64 (by omega) (by omega)
         rcases hj3 with rfl | rfl | rfl
         ·have c:(0:Int)<a:=by omega
          simp [go_sem,f8,f27,f10,f34,f35,f36,hlt,fq,w1,u0,u1,u2,c]
          refine AppendStep.ints (lo:=M.length) (e:=3) (bt:=8) (z:=0) (xs:=[]) (ys:=[x0]) (by simp [go_sem]) (by simp [go_sem]) (by simp [go_sem]) (by omega) (by simpa using fo) (by simp [rowsOf]) (by simp) ?_
          intro av mu' ho' hm'
          simp [go_sem,f8,f27,f10,f34,f35,f36,z1,z2,z3]
          refine ⟨hlt,Keep.mk' ?_⟩
          exact ⟨by simp [go_sem,f8],by simp [go_sem,f27],by simp [go_sem,f10],by simp [go_sem,f34],by simp [go_sem,f35],by simp [go_sem],fun i hi=>by simp only [put_mu];rw [hm' i hi];exact fm i hi,by simpa [go_sem] using ho'⟩
         ·have c:(1:Int)<a:=by omega
          simp [go_sem,f8,f27,f10,f34,f35,f36,hlt,fq,w1,u0,u1,u2,c]
          refine AppendStep.ints (lo:=M.length) (e:=3) (bt:=8) (z:=0) (xs:=[x0]) (ys:=[x1]) (by simp [go_sem]) (by simp [go_sem]) (by simp [go_sem]) (by omega) (by simpa using fo) (by simp [rowsOf]) (by simp) ?_
          intro av mu' ho' hm'
          simp [go_sem,f8,f27,f10,f34,f35,f36,z1,z2,z3]
          refine ⟨hlt,Keep.mk' ?_⟩
          exact ⟨by simp [go_sem,f8],by simp [go_sem,f27],by simp [go_sem,f10],by simp [go_sem,f34],by simp [go_sem,f35],by simp [go_sem],fun i hi=>by simp only [put_mu];rw [hm' i hi];exact fm i hi,by simpa [go_sem] using ho'⟩
         ·have c:(2:Int)<a:=by omega
          simp [go_sem,f8,f27,f10,f34,f35,f36,hlt,fq,w1,u0,u1,u2,c]
          refine AppendStep.ints (lo:=M.length) (e:=3) (bt:=8) (z:=0) (xs:=[x0,x1]) (ys:=[x2]) (by simp [go_sem]) (by simp [go_sem]) (by simp [go_sem]) (by omega) (by simpa using fo) (by simp [rowsOf]) (by simp) ?_
          intro av mu' ho' hm'
          simp [go_sem,f8,f27,f10,f34,f35,f36,z1,z2,z3]
          refine ⟨hlt,Keep.mk' ?_⟩
          exact ⟨by simp [go_sem,f8],by simp [go_sem,f27],by simp [go_sem,f10],by simp [go_sem,f34],by simp [go_sem,f35],by simp [go_sem],fun i hi=>by simp only [put_mu];rw [hm' i hi];exact fm i hi,by simpa [go_sem] using ho'⟩
      ·simp [go_sem,e8,e27]
       have hperm:(seen.map fun i=>rowT k (k.ts.getD i [])).Perm (k.ts.map (rowT k)):=seen_rows (rowT k) hnd hlt fun i hi=>hdone i (by simpa using hi)
       have hlen:∀ x,x∈(seen.map fun i=>rowT k (k.ts.getD i []))→x.length≤3:=fun x hx=>by
        obtain ⟨i,_,rfl⟩:=List.mem_map.1 hx
        have:=hk.ar
        simp only [rowT,List.length_take]
        omega
       generalize hL:(seen.map fun i=>rowT k (k.ts.getD i []))=L at *
       have hoL:OwnF (l.length+4) st.mu 1 (st.tm 10) (L.map rL):=by
        rw [←hL,List.map_map];exact ho
       have hLl:L.length≤64:=by rw [←hL,List.length_map];omega
       refine CallStep.eff0 (sortLU hoL.1 hnl hLl hlen) ?_ ?_
       ·rintro r m ⟨e,L',hp',hs',hr'⟩
        cases e
        have htl:L'=typeL k:=sorted_eq (hp'.trans hperm) hs'
        rw [htl] at hr'
        simp [go_sem]
        exact rd_typ2 hr' 0
       ·rintro r m ⟨e,_⟩;cases e
    ·exact absurd hv.1 (by simp)
   ·cases hr
    split at hv
    ·exact absurd hv.1 (by simp)
    ·rename_i d hE
     obtain ⟨hv,rfl⟩:=hv
     cases hv
     have hne:d.1≠0:=exam_err _ (szN n) n _ _ _ (Nat.le_refl _) hE
     have htk:typeK ts env n=([],d.1):=by
      unfold typeK
      rw [if_neg h20,hE]
     rw [htk]
     simp [go_sem,hne]
     refine DrawGo.intro (by kernel_rfl) ?_
     simp [go_sem]
     exact rd_typ _ _
  ·rintro r m ⟨m',x,⟨l,rfl⟩,⟨r',hv,hr⟩ | ⟨er,p,hv,hr⟩⟩<;>cases hr
end Go.Proofs.YtcfopdccdeeleaaGreatDoor.YW


namespace Go.Proofs.YtcfopdccdeeleaaGreatDoor.YX
open Go Go.Ev Go.Proofs Go.Proofs.YtcfopdccdeeleaaGreatDoor YM YS YF P1 P2 Y1 Y2 Y3 Y4 Y5 Y6 Y7 Y8 Y9 Y10 Y11 Y12 Y13 Y14 Y15 Y16 YU YV YW
structure IV where
 arg:Option Nd
 size:Int
 name:ByteArray
abbrev IEnv:=List (ByteArray×IV)
def aArg:Option Nd→AV
 |some n => .ip (cNd n)
 |none => .sc (.pointer none)
abbrev cIV (v:IV):List AV:=[aArg v.arg,aI v.size,aS v.name]
abbrev eIV (v:IV):AV := .agg (cIV v)
abbrev eEnv (env:IEnv):AV := .ims (encK aS eIV env)
structure ISt where
 last:Int
 cost:Int
abbrev cIn (ts:TS) (tb:Nat) (s:ISt):List AV:=cTS ts++[.mp tb,aI s.last,aI s.cost]
theorem hf_aArg (a:Option Nd):HF (aArg a):=by
 cases a with
 |none=>exact HF.sc _
 |some n=>exact HF.ip (hf_cNd n)
theorem hf_eIV (v:IV):HF (eIV v):=HF.agg fun c hc=>by
 simp only [cIV,List.mem_cons,List.not_mem_nil,or_false] at hc
 rcases hc with rfl | rfl | rfl
 ·exact hf_aArg _
 ·exact HF.sc _
 ·exact HF.sc _
theorem bindsU (op:Int):SoundP Tryz.prog 116 [aI op] (aB (decide (op=15∨op=45∨op=46))):=by
 refine SoundP.of_sound (Sound.of_awp Tryz.call116 Tryz.func116 rfl (Nat.le_of_ble_eq_true (by kernel_rfl)) (by kernel_rfl) (pl:={}) ?_)
 by_cases h1:op=15
 ·simp [go_sem,h1];exact .hf _ (HF.sc _)
 by_cases h2:op=45
 ·simp [go_sem,h1,h2];exact .hf _ (HF.sc _)
 by_cases h3:op=46
 ·simp [go_sem,h1,h2,h3];exact .hf _ (HF.sc _)
 simp [go_sem,h1,h2,h3];exact .hf _ (HF.sc _)
def nd0:Nd := .mk 0 ⟨#[]⟩ 0 [] 0
abbrev eN0:AV := .agg [aI 0,aS ⟨#[]⟩,aI 0,.lst true [],aI 0]
theorem wk_nd0:WK eN0 (eNd nd0):=WK.aggs (.cons (.hf (HF.sc _)) (.cons (.hf (HF.sc _)) (.cons (.hf (HF.sc _)) (.cons (WK.lst fun r hr=>absurd hr List.not_mem_nil) (.cons (.hf (HF.sc _)) .nil)))))
def payS (n:Int) (s:ISt):ISt:=⟨s.last,s.cost+n⟩
theorem payU (ts:TS) (tb:Nat) (s:ISt) (n:Int) (hs : -1000000≤s.cost∧s.cost≤1000000) (hn:0≤n∧n≤1000000) {mu:Mu} {xb:Nat} (hx:mu[xb]?=some (.arr (cIn ts tb s))) :
  Sound Tryz.prog 112 [.ptr xb 0,aI n] mu fun e m=>m=mu.set xb (.arr (cIn ts tb (payS n s)))∧e=if s.cost+n≤4000 then .ret (.tup []) else .pan (stopV 2 0):=by
 refine Sound.of_awp Tryz.call112 Tryz.func112 rfl (Nat.le_of_ble_eq_true (by kernel_rfl)) (by kernel_rfl) (pl:={}) ?_
 have w1:IntKind.i64.wrap (s.cost+n)=s.cost+n:=wrap_i64 (by omega) (by omega)
 have hxl:xb<mu.length:=(List.getElem?_eq_some_iff.1 hx).1
 have hx1:∀ c,(mu.set xb c)[xb]?=some c:=fun c=>List.getElem?_set_self hxl
 simp [go_sem,hx,hx1,w1]
 by_cases hc:s.cost+n≤4000
 ·simp [go_sem,hc]
  refine CallStep.pure (needU true 2 nd0).toP (.cons (.hf (HF.sc _)) (.cons (.hf (HF.sc _)) (.cons wk_nd0 .nil))) ?_
  simp [go_sem]
  rfl
 ·simp [go_sem,hc]
  refine CallStep.pans (needU false 2 nd0) (.cons (.hf (HF.sc _)) (.cons (.hf (HF.sc _)) (.cons wk_nd0 .nil))) ?_
  simp [go_sem]
  exact ⟨rfl,rfl⟩
theorem lookE {mu:Mu} (env:IEnv) (nm:ByteArray):lookupA Tryz.prog mu 129 (eEnv env) (aS nm) true=some (match getK nm env with | some v => .tup [eIV v,aB true] | none => .tup [eIV ⟨none,0,⟨#[]⟩⟩,aB false]):=by
 have:=keyS.lookS (et:=181) (t:=129) (by simp [go_sem]) (mu:=mu) (venc:=eIV) (es:=env) (k:=nm) trivial (fun _ _=>trivial) (z:=eIV ⟨none,0,⟨#[]⟩⟩) (by simp [go_sem,aArg]) true
 rw [this]
 cases getK nm env<;>rfl
def replI (env:IEnv) (n:Nd) (s:ISt):Except Dg ((Nd×Int)×ISt):=
 match getK n.name env with
 |none => .ok ((n,1),s)
 |some v=>match v.arg with
  |none => .ok ((.mk n.op v.name n.n n.kids n.pos,1),s)
  |some a=>if s.cost+v.size≤4000 then .ok ((a,v.size),payS v.size s) else .error (2,0)
def endI (ts:TS) (tb:Nat) (mu:Mu) (xb:Nat) (r:Except Dg ((Nd×Int)×ISt)) (e:AEnd) (m:Mu):Prop:=
 match r with
 | .ok ((n,k),s)=>e = .ret (.tup [eNd n,aI k])∧m[xb]?=some (.arr (cIn ts tb s))∧(∀ i,i<mu.length→i≠xb→m[i]?=mu[i]?)∧mu.length≤m.length
 | .error d=>e = .pan (stopV d.1 d.2)∧(∀ i,i<mu.length→i≠xb→m[i]?=mu[i]?)∧mu.length≤m.length
theorem replaceU (ts:TS) (tb:Nat) (s:ISt) (hs : -1000000≤s.cost∧s.cost≤500000) (env:IEnv) (hk:(env.map Prod.fst).Nodup) (hz:∀ e,e∈env→0≤e.2.size∧e.2.size≤500000) (n:Nd) {mu:Mu} {xb:Nat} (hx:mu[xb]?=some (.arr (cIn ts tb s))) :
  Sound Tryz.prog 113 [.ptr xb 0,eEnv env,eNd n] mu (endI ts tb mu xb (replI env n s)):=by
 refine Sound.of_awp Tryz.call113 Tryz.func113 rfl (Nat.le_of_ble_eq_true (by kernel_rfl)) (by kernel_rfl) (pl:={ mt:=[5] }) ?_
 have hl:=fun mu=>lookE (mu:=mu) env n.name
 have hxl:xb<mu.length:=(List.getElem?_eq_some_iff.1 hx).1
 obtain ⟨B,hB⟩:∃ B,B=eEnv env:=⟨_,rfl⟩
 rw [←hB]
 simp only [←hB] at hl
 unfold replI
 cases hv:getK n.name env with
 |none =>
  simp only [hv] at hl
  simp [go_sem]
  refine OptK.intro _ (hl _) ?_
  simp [go_sem,aArg]
  exact ⟨rfl,by rw [List.getElem?_append_left hxl];exact hx,fun i hi _=>List.getElem?_append_left hi,by simp⟩
 |some v =>
  simp only [hv] at hl
  have hvz:=hz (n.name,v) ((getK_mem hk).1 hv)
  obtain ⟨va,vz,vn⟩:=v
  cases va with
  |none =>
   simp [go_sem]
   refine OptK.intro _ (hl _) ?_
   have hset:(cNd n).set 1 (AV.sc (Value.string vn))=cNd (.mk n.op vn n.n n.kids n.pos):=by
    obtain ⟨op,nm,nn,ks,pos⟩:=n
    simp [cNd_eq,Nd.op,Nd.name,Nd.n,Nd.kids,Nd.pos]
   simp [go_sem,aArg,hset]
   exact ⟨rfl,by rw [List.getElem?_append_left hxl];exact hx,fun i hi _=>List.getElem?_append_left hi,by simp⟩
  |some a =>
   simp [go_sem]
   refine OptK.intro _ (hl _) ?_
   simp [go_sem,aArg]
   have hvz':0≤vz∧vz≤500000:=hvz
   refine CallStep.eff0 (payU ts tb s vz ⟨by omega,by omega⟩ ⟨by omega,by omega⟩ (by rw [List.getElem?_append_left hxl];exact hx)) ?_ ?_
   ·rintro r m ⟨rfl,e⟩
    by_cases hc:s.cost+vz≤4000
    ·rw [if_pos hc] at e
     cases e
     rw [List.set_append_left _ _ hxl]
     simp [go_sem,hc]
     refine DrawGo.move 5 1 (by kernel_rfl) (by kernel_rfl) ?_ ?_
     all_goals
      simp [go_sem]
      refine ⟨rfl,?_,fun i hi hne=>?_,by simp⟩
      ·rw [List.getElem?_append_left (by simpa using hxl),List.getElem?_set_self hxl];rfl
      ·rw [List.getElem?_append_left (by simpa using hi),List.getElem?_set_ne (fun e=>hne e.symm)]
    ·rw [if_neg hc] at e;cases e
   ·rintro r m ⟨rfl,e⟩
    by_cases hc:s.cost+vz≤4000
    ·rw [if_pos hc] at e;cases e
    ·rw [if_neg hc] at e
     cases e
     simp [go_sem,hc]
     refine ⟨rfl,fun i hi hne=>?_,by simp⟩
     rw [List.getElem?_set_ne (fun e=>hne e.symm),List.getElem?_append_left hi]
end Go.Proofs.YtcfopdccdeeleaaGreatDoor.YX


namespace Go.Proofs.YtcfopdccdeeleaaGreatDoor.YZ
open Go Go.Ev Go.Proofs Go.Proofs.YtcfopdccdeeleaaGreatDoor YM YS YF P1 P2 Y1 Y2 Y3 Y4 Y5 Y6 Y7 Y8 Y9 Y10 Y11 Y12 Y13 Y14 Y15 Y16 YU YV YW YX
mutual
def depN:Nd→Int
 | .mk _ _ _ ks _=>depNs ks+1
def depNs:List Nd→Int
 | []=>0
 |k :: ks=>max (depN k) (depNs ks)
end
mutual
theorem depN_nn:∀ n:Nd,0≤depN n
 | .mk _ _ _ ks _=>by simp only [depN];have:=depNs_nn ks;omega
theorem depNs_nn:∀ ks:List Nd,0≤depNs ks
 | []=>by simp [depNs]
 |k :: ks=>by simp only [depNs];have:=depNs_nn ks;omega
end
theorem depN_eq (n:Nd):depN n=depNs n.kids+1:=by
 obtain ⟨op,nm,i,ks,p⟩:=n
 simp [depN,Nd.kids]
theorem depNs_mem {ks:List Nd} {k:Nd} (h:k∈ks):depN k≤depNs ks:=by
 induction ks with
 |nil=>simp at h
 |cons a l ih =>
  simp only [depNs]
  rcases List.mem_cons.1 h with rfl | h
  ·omega
  ·have:=ih h;omega
theorem depthU:∀(m:Nat) (n:Nd),szN n≤m→Small n→depN n≤1000000→SoundP Tryz.prog 72 [eNd n] (aI (depN n))
 | 0,n,hm,_,_=>by obtain ⟨op,nm,i,ks,p⟩:=n;simp [szN] at hm
 |m+1,n,hm,hs,hd=>by
  have ih:∀ k,k∈n.kids→SoundP Tryz.prog 72 [eNd k] (aI (depN k)):=fun k hk =>
   depthU m k (by have:=kid_lt hk;omega) (hs.kid hk) (by rw [depN_eq] at hd;have:=depNs_mem hk;omega)
  rw [depN_eq] at hd ⊢
  have hlen:=hs.len
  have hnn:=depNs_nn n.kids
  generalize hD:depNs n.kids=D at *
  refine SoundP.of_sound (Sound.of_awp Tryz.call72 Tryz.func72 rfl (Nat.le_of_ble_eq_true (by kernel_rfl)) (by kernel_rfl) (pl:={}) ?_)
  simp [go_sem]
  refine LoopGo.upK n.kids.length (fun k st=>∃ d,st.tm 3=aI d∧st.tm 7=lNd n.kids∧st.tm 8=aI n.kids.length∧st.tm 9=aI k∧0≤d∧max d (depNs (n.kids.drop k))=D) ?_ ?_
  ·exact ⟨0,by simp [go_sem],by simp [go_sem],by simp [go_sem],by simp [go_sem],by omega,by simp only [List.drop_zero,hD];omega⟩
  ·rintro k st hk ⟨d,e3,e7,e8,e9,hd0,hI⟩
   by_cases hkl:k=n.kids.length
   ·subst hkl
    rw [List.drop_length] at hI
    simp only [depNs] at hI
    have hdD:d=D:=by omega
    subst hdD
    have w:IntKind.i64.wrap (d+1)=d+1:=wrap_i64 (by omega) (by omega)
    simp [go_sem,e3,e7,e8,e9,w]
    exact .hf _ (HF.sc _)
   ·have hlt:k<n.kids.length:=by omega
    have w1:IntKind.i64.wrap ((k:Int)+1)=(k:Int)+1:=wrap_i64 (by omega) (by omega)
    rw [List.drop_eq_getElem_cons hlt] at hI
    simp only [depNs] at hI
    simp [go_sem,e3,e7,e8,e9,hlt,cNd_ones]
    refine CallStep.pure (ih n.kids[k] (List.getElem_mem hlt)) (.cons (.hf (hf_eNd _)) .nil) ?_
    simp [go_sem,e3,e7,e8,e9,w1]
    refine ⟨hlt,Keep.mk' ?_⟩
    refine ⟨if d<depN n.kids[k] then depN n.kids[k] else d,by simp [go_sem],by simp [go_sem,e7],by simp [go_sem,e8],by simp [go_sem],?_,?_⟩
    ·have:=depN_nn n.kids[k]
     split<;>omega
    ·split<;>omega
mutual
def preN:Nd→List Nd
 | .mk op nm n ks p => .mk op nm n ks p :: preNs ks
def preNs:List Nd→List Nd
 | []=>[]
 |k :: ks=>preN k++preNs ks
end
theorem preN_eq (n:Nd):preN n=n :: preNs n.kids:=by
 obtain ⟨op,nm,i,ks,p⟩:=n
 simp [preN,Nd.kids]
theorem preNs_app (a b:List Nd):preNs (a++b)=preNs a++preNs b:=by
 induction a with
 |nil=>rfl
 |cons x a ih=>simp [preNs,ih]
theorem walkU {f:FuncId} {caps:List AV} (I:List Nd→Mu→Prop) (hp:∀ v mu l,I v mu→I v (mu++l)) (hf:∀ v k mu,I v mu→Sound Tryz.prog f (eNd k :: caps) mu fun e m=>e = .ret (.tup [])∧I (v++[k]) m) :
  ∀(m:Nat) (n:Nd),szN n≤m→Small n→∀(v:List Nd) (mu:Mu),I v mu→Sound Tryz.prog 66 [eNd n,.fn (.func f) [] caps] mu fun e m=>e = .ret (.tup [])∧I (v++preN n) m
 | 0,n,hm,_,_,_,_=>by obtain ⟨op,nm,i,ks,p⟩:=n;simp [szN] at hm
 |m+1,n,hm,hs,v,mu,hI=>by
  have ih:∀ k,k∈n.kids→∀ v mu,I v mu→Sound Tryz.prog 66 [eNd k,.fn (.func f) [] caps] mu fun e m=>e = .ret (.tup [])∧I (v++preN k) m:=fun k hk v mu hI =>
   walkU I hp hf m k (by have:=kid_lt hk;omega) (hs.kid hk) v mu hI
  have hlen:=hs.len
  rw [preN_eq]
  refine Sound.of_awp Tryz.call66 Tryz.func66 rfl (Nat.le_of_ble_eq_true (by kernel_rfl)) (by kernel_rfl) (pl:={}) ?_
  simp [go_sem]
  refine CallStep.eff (hf v n mu hI) ?_ (by rintro r m ⟨e,_⟩;cases e)
  rintro r m ⟨e,hI1⟩
  cases e
  simp [go_sem]
  refine LoopGo.upK n.kids.length (fun k st=>st.tm 1 = .fn (.func f) [] caps∧st.tm 10=lNd n.kids∧st.tm 11=aI n.kids.length∧st.tm 12=aI k∧I (v++[n]++preNs (n.kids.take k)) st.mu) ?_ ?_
  ·exact ⟨by simp [go_sem],by simp [go_sem],by simp [go_sem],by simp [go_sem],by simpa [go_sem,preNs] using hI1⟩
  ·rintro k st hk ⟨e1,e10,e11,e12,hI2⟩
   by_cases hkl:k=n.kids.length
   ·subst hkl
    rw [List.take_length] at hI2
    simp [go_sem,e1,e10,e11,e12]
    simpa using hI2
   ·have hlt:k<n.kids.length:=by omega
    have w1:IntKind.i64.wrap ((k:Int)+1)=(k:Int)+1:=wrap_i64 (by omega) (by omega)
    simp [go_sem,e1,e10,e11,e12,hlt,cNd_ones]
    refine CallStep.eff0 (ih n.kids[k] (List.getElem_mem hlt) _ _ (hp _ _ _ hI2)) ?_ (by rintro r m ⟨e,_⟩;cases e)
    rintro r m ⟨e,hI3⟩
    cases e
    simp [go_sem,e1,e10,e11,e12,w1]
    refine ⟨hlt,Keep.mk' ?_⟩
    refine ⟨by simp [go_sem,e1],by simp [go_sem,e10],by simp [go_sem,e11],by simp [go_sem],?_⟩
    have e:preNs (n.kids.take (k+1))=preNs (n.kids.take k)++preN n.kids[k]:=by
     rw [List.take_add_one,List.getElem?_eq_getElem hlt,preNs_app]
     simp [preNs]
    rw [e,←List.append_assoc]
    simpa [go_sem] using hI3
def setN (l:List ByteArray) (b:ByteArray):List (ByteArray×Bool)→List (ByteArray×Bool):=fun es=>setK b true es
abbrev eSet (es:List (ByteArray×Bool)):List (AV×AV):=encK aS aB es
theorem updS {mu:Mu} {b:Nat} {es:List (ByteArray×Bool)} (hm:mu[b]?=some (.mp (eSet es))) (nm:ByteArray) :
  mapUpdateA Tryz.prog mu 122 (.mp b) (aS nm) (aB true)=some (mu.set b (.mp (eSet (setK nm true es)))):=
 keyS.update (et:=4) (t:=122) (by simp [go_sem]) (mu:=mu) (b:=b) (venc:=aB) (es:=es) hm (k:=nm) (v:=true) trivial (fun _ _=>trivial)
theorem inline1U (ts:TS) (s:ISt) (tb:Nat) (c:Bool) (es:List (ByteArray×Bool)) (n:Nd) {mu:Mu} {xp cb xb:Nat} (h1:mu[xp]?=some (.arr [.ptr xb 0])) (hx:mu[xb]?=some (.arr (cIn ts tb s))) (hc:mu[cb]?=some (.arr [aB c])) (ht:mu[tb]?=some (.mp (eSet es))) :
  Sound Tryz.prog 67 [eNd n,.ptr xp 0,.ptr cb 0] mu fun e m=>e = .ret (.tup [])∧m=(mu.set tb (.mp (eSet (setK n.name true es)))).set cb (.arr [aB (c||decide (n.op=47))]):=by
 refine Sound.of_awp Tryz.call67 Tryz.func67 rfl (Nat.le_of_ble_eq_true (by kernel_rfl)) (by kernel_rfl) (pl:={}) ?_
 have hcl:cb<mu.length:=(List.getElem?_eq_some_iff.1 hc).1
 have htl:tb<mu.length:=(List.getElem?_eq_some_iff.1 ht).1
 simp [go_sem,h1,hx,hc]
 refine DrawGo.intro (by kernel_rfl) ?_
 have hu:=updS ht n.name
 simp [go_sem,h1,hx,hc]
 refine OptK.intro _ hu ?_
 have hne:tb≠cb:=fun e=>by rw [e,hc] at ht;cases ht
 generalize hN:Cell.mp (eSet (setK n.name true es))=N at *
 have hcb:(mu.set tb N)[cb]?=some (.arr [aB c]):=by rw [List.getElem?_set_ne hne];exact hc
 cases c
 ·simp [go_sem,h1,hx,hcb]
  try rfl
 ·simp [go_sem,h1,hx,hcb]
  try rfl
theorem inline2U (ts:TS) (s:ISt) (tb:Nat) (es:List (ByteArray×Bool)) (n:Nd) {mu:Mu} {xp xb:Nat} (h1:mu[xp]?=some (.arr [.ptr xb 0])) (hx:mu[xb]?=some (.arr (cIn ts tb s))) (ht:mu[tb]?=some (.mp (eSet es))) :
  Sound Tryz.prog 68 [eNd n,.ptr xp 0] mu fun e m=>e = .ret (.tup [])∧m=mu.set tb (.mp (eSet (setK n.name true es))):=by
 refine Sound.of_awp Tryz.call68 Tryz.func68 rfl (Nat.le_of_ble_eq_true (by kernel_rfl)) (by kernel_rfl) (pl:={}) ?_
 have htl:tb<mu.length:=(List.getElem?_eq_some_iff.1 ht).1
 simp [go_sem,h1,hx]
 refine DrawGo.intro (by kernel_rfl) ?_
 have hu:=updS ht n.name
 simp [go_sem,h1,hx]
 refine OptK.intro _ hu ?_
 simp [go_sem,h1,hx]
end Go.Proofs.YtcfopdccdeeleaaGreatDoor.YZ


namespace Go.Proofs.YtcfopdccdeeleaaGreatDoor.YA
open Go Go.Ev Go.Proofs Go.Proofs.YtcfopdccdeeleaaGreatDoor YM YS YF P1 P2 Y1 Y2 Y3 Y4 Y5 Y6 Y7 Y8 Y9 Y10 Y11 Y12 Y13 Y14 Y15 Y16 YU YV YW YX YZ
def vN (k:Int):ByteArray:=⟨#[118]⟩++itoaB k
theorem itoaB_size (k:Int) (h0 : -9223372036854775808≤k) (h1:k≤9223372036854775807):(itoaB k).size≤21:=by
 have:=Lib.itoa_length_le k h0 h1
 unfold itoaB
 simpa [ByteArray.size] using this
def freeN (ts:TS) (es:List (ByteArray×Bool)) (nm:ByteArray):Bool:=decide (getK nm es≠some true)&&decide (means ts nm=[])
def freshI (ts:TS) (es:List (ByteArray×Bool)):Nat→Int→Int
 | 0,k=>k+1
 |f+1,k=>if freeN ts es (vN (k+1))=true then k+1 else freshI ts es f (k+1)
theorem lookSet {mu:Mu} {tb:Nat} {es:List (ByteArray×Bool)} (ht:mu[tb]?=some (.mp (eSet es))) (nm:ByteArray):lookupA Tryz.prog mu 122 (.mp tb) (aS nm) false=some (aB (decide (getK nm es=some true))):=by
 have:=keyS.look (et:=4) (t:=122) (by simp [go_sem]) (mu:=mu) (m := .mp tb) (venc:=aB) (es:=es) (by simp only [entriesOf,ht]) (k:=nm) trivial (fun _ _=>trivial) (z:=aB false) (by simp [go_sem]) false
 refine Eq.trans ?_ (this.trans ?_)
 ·rfl
 ·cases getK nm es with
  |none=>rfl
  |some b=>cases b<;>rfl
theorem set_same {mu:Mu} {b:Nat} {c:Cell} (h:mu[b]?=some c):mu.set b c=mu:=by
 apply List.ext_getElem?
 intro i
 by_cases e:b=i
 ·subst e
  rw [List.getElem?_set_self (List.getElem?_eq_some_iff.1 h).1,h]
 ·rw [List.getElem?_set_ne e]
theorem freshU (ts:TS) (h:okTS ts) (s:ISt) (F:Nat) (hs:0≤s.last∧s.last+F≤1000000000) (tb:Nat) (es:List (ByteArray×Bool)) (hex:∃ j:Nat,1≤j∧j≤F∧freeN ts es (vN (s.last+j))=true) {mu:Mu} {xb:Nat} (hx:mu[xb]?=some (.arr (cIn ts tb s))) (ht:mu[tb]?=some (.mp (eSet es))) :
  Sound Tryz.prog 158 [.ptr xb 0] mu fun e m=>e = .ret (aS (vN (freshI ts es F s.last)))∧m=mu.set xb (.arr (cIn ts tb ⟨freshI ts es F s.last,s.cost⟩)):=by
 refine Sound.of_awp Tryz.call158 Tryz.func158 rfl (Nat.le_of_ble_eq_true (by kernel_rfl)) (by kernel_rfl) (pl:={}) ?_
 have hxl:xb<mu.length:=(List.getElem?_eq_some_iff.1 hx).1
 have hne:tb≠xb:=fun e=>by rw [e,hx] at ht;cases ht
 simp [go_sem]
 generalize hR:freshI ts es F s.last=R
 refine LoopGo.keep (fun m st=>∃ l:Int,0≤l∧l+m≤1000000000∧st.tm 0 = .ptr xb 0∧st.mu=mu.set xb (.arr (cIn ts tb ⟨l,s.cost⟩))∧freshI ts es m l=R∧∃ j:Nat,1≤j∧j≤m∧freeN ts es (vN (l+j))=true) F ?_ ?_
 ·refine ⟨s.last,hs.1,hs.2,by simp [go_sem],?_,hR,hex⟩
  simp only [go_sem,put_mu,st0]
  rw [show cIn ts tb ⟨s.last,s.cost⟩=cIn ts tb s from rfl]
  exact (set_same hx).symm
 ·rintro m st ⟨l,hl0,hlm,e0,hm,hI,j,hj1,hjm,hfr⟩
  obtain ⟨m,rfl⟩:∃ m',m=m'+1:=⟨m-1,by omega⟩
  have w1:IntKind.i64.wrap (l+1)=l+1:=wrap_i64 (by omega) (by omega)
  have hx1:∀ c,(mu.set xb c)[xb]?=some c:=fun c=>List.getElem?_set_self hxl
  have hss:∀ c d,(mu.set xb c).set xb d=mu.set xb d:=fun c d=>List.set_set ..
  have ht1:∀ c,(mu.set xb c)[tb]?=some (.mp (eSet es)):=fun c=>by rw [List.getElem?_set_ne (fun e=>hne e.symm)];exact ht
  have hsz:=itoaB_size (l+1) (by omega) (by omega)
  have hsz2:1+(itoaB (l+1)).size≤9223372036854775807:=by omega
  simp [go_sem,e0,hm,hx,hx1,hss,w1]
  refine CallStep.pure (itoaU (l+1) (by omega) (by omega)) (.cons (.hf (HF.sc _)) .nil) ?_
  simp [go_sem,e0,hx1,hss,hsz2]
  rw [show (⟨#[118]⟩:ByteArray)++itoaB (l+1)=vN (l+1) from rfl]
  generalize hnm:vN (l+1)=nm
  have hlk:=fun c=>lookSet (ht1 c) nm
  simp [go_sem] at hlk
  refine OptK.intro _ (hlk _) ?_
  have again:freeN ts es nm=false→freshI ts es m (l+1)=R∧∃ j:Nat,1≤j∧j≤m∧freeN ts es (vN (l+1+j))=true:=fun hn=>by
   simp only [freshI,hnm,hn] at hI
   refine ⟨by simpa using hI,j-1,?_,by omega,?_⟩
   ·have:j≠1:=fun e=>by rw [e,show l+((1:Nat):Int)=l+1 by omega,hnm,hn] at hfr;cases hfr
    omega
   ·rw [show l+1+((j-1:Nat):Int)=l+j by omega];exact hfr
  by_cases hg:getK nm es=some true
  case pos =>
   obtain ⟨a1,a2⟩:=again (by simp [freeN,hg])
   simp [go_sem,e0,hx1,hss,hg]
   refine Keep.loop m (by omega) ⟨l+1,by omega,by omega,by simp [go_sem,e0],by simp [go_sem],a1,a2⟩
  case neg =>
   simp [go_sem,e0,hx1,hss,hg]
   refine CallStep.pure (meansU ts h nm) (.cons (.hf (hf_eTS ts)) (.cons (.hf (HF.sc _)) .nil)) ?_
   by_cases hmn:means ts nm=[]
   ·have hR2:R=l+1:=by
     rw [←hI]
     simp [freshI,hnm,freeN,hg,hmn]
    subst hR2
    simp [go_sem,e0,hx1,hss,hmn]
    rw [hnm]
    try rfl
   ·obtain ⟨a1,a2⟩:=again (by simp [freeN,hmn])
    simp [go_sem,e0,hx1,hss,hmn]
    refine Keep.loop m (by omega) ⟨l+1,by omega,by omega,by simp [go_sem,e0],by simp [go_sem],a1,a2⟩
end Go.Proofs.YtcfopdccdeeleaaGreatDoor.YA
