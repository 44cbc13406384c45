/-
  Own library, part 7: an abstract reading of values and a calculus over it; contracts of functions; plain lemmas.
-/
import Derived.Test.YtcfopdccdeeleaaGreatDoorRows
import Derived.LaidMore
import Derived.MakeChecks
import Derived.WalkKit
import Derived.JoinedCond
import Derived.Test.YtcfopdccdeeleaaGreatDoorMf
set_option linter.unusedVariables false
set_option linter.unusedSimpArgs false
set_option maxRecDepth 100000


namespace Go.Proofs.YtcfopdccdeeleaaGreatDoor.QR
open Go Go.Ev Go.Proofs Go.Proofs.YtcfopdccdeeleaaGreatDoor YM YF Y9 Y10 Y1 Y2 Y3 Y12 Y13 P1 P2 PA PB QD QE QF QG QH QI QJ QK QL QM QN PG QO
theorem shp_bind {n:Nd} (hw:WfN n) (h:n.op=15∨n.op=45∨n.op=46):∃ a f,n.kids=[a,f]∧kd a.op=101:=by
 have hs:=hw.shape
 unfold shp at hs
 rw [if_neg (by omega),if_neg (by omega),if_neg (by omega),if_pos (by omega)] at hs
 simp only [Option.some.injEq] at hs
 match hk:n.kids,hs with
 | [a,f],hs =>
  simp at hs
  exact ⟨a,f,rfl,hs.1.symm⟩
 | [],hs=>simp at hs
 | [_],hs=>simp at hs
 |_ :: _ :: _ :: _,hs=>simp at hs
theorem five {α:Type} {l:List α} {a b c d e:α} (h0:l[0]?=some a) (h1:l[1]?=some b) (h2:l[2]?=some c) (h3:l[3]?=some d) (h4:l[4]?=some e):∃ r,l=a :: b :: c :: d :: e :: r:=by
 match l,h0,h1,h2,h3,h4 with
 |_ :: _ :: _ :: _ :: _ :: r,h0,h1,h2,h3,h4 =>
  simp at h0 h1 h2 h3 h4
  exact ⟨r,by rw [h0,h1,h2,h3,h4]⟩
def bindS:Res→RS
 | .ok (some k)=>if k.ar=1 then setOf k else zR
 |_=>zR
theorem fl_res (s:RS) (d:Dg):FL (.tup [eRS s,eDg d]):=FL.tup fun x hx=>by
 rcases List.mem_cons.1 hx with rfl | hx
 ·exact FL.agg fun c hc=>by
   rcases List.mem_cons.1 hc with rfl | hc
   ·exact FL.sc _
   ·obtain ⟨j,_,rfl⟩:=List.mem_map.1 hc
    exact FL.sc _
 ·rw [List.mem_singleton] at hx;subst hx
  exact FL.agg fun c hc=>by
   rcases List.mem_cons.1 hc with rfl | hc
   ·exact FL.sc _
   ·rw [List.mem_singleton] at hc;subst hc;exact FL.sc _
theorem binderRU (c:Ck) (hc:okCk c) (s:Scp) (hs:ScOk c.ts.sorts.length s) (hsl:s.length≤90000) (n a g:Nd) (hw:WfN n) (hb:n.op=15∨n.op=45∨n.op=46) (hks:n.kids=[a,g]) (hka:kd a.op=101) (inn:Bool)
  (iha:ExR c s (inn||decide (n.op=15)) a) (ihg:∀ k,okKd c.ts.sorts.length k→k.ar=1→ExR c ((n.name,k) :: s) (inn||decide (n.op=15)) g) :
  SoundP Tryz.prog 96 [eVw c inn,lVr (envS s),eNd n] (.tup [eRS (bindS (exam c s (inn||decide (n.op=15)) a)),eDg (dgOf (examB c s (inn||decide (n.op=15)) n.name n.pos n.kids))]):=by
 have wa:=hw.kid (k:=a) (by rw [hks];simp)
 obtain ⟨S,ca,hS⟩:=iha
 have hok:=exam_ok hc (szN a) a s (inn||decide (n.op=15))
 have herr:=exam_err c (szN a) a s (inn||decide (n.op=15))
 rw [hks]
 have w1:=wkE c (inn||decide (n.op=15)) (envS s) a
 have hB2:n.op=15→(inn||decide (n.op=15))=true:=fun h=>by simp [h]
 have hB3:¬n.op=15→(inn||decide (n.op=15))=inn:=fun h=>by simp [h]
 generalize (inn||decide (n.op=15))=B at *
 generalize hE:dgOf (examB c s B n.name n.pos [a,g])=E
 generalize hX:exam c s B a=X at *
 have ihg2:∀ k,okKd c.ts.sorts.length k→k.ar=1→X = .ok (some k)→∃ S2,SoundP Tryz.prog 46 [eVw c B,lVr (envS ((n.name,k) :: s)),eNd g] (.tup [eRS S2,eDg E]):=fun k hk har hXk=>by
  obtain ⟨S2,cg,_⟩:=ihg k hk har
  refine ⟨S2,?_⟩
  have hEe:E=dgOf (exam c ((n.name,k) :: s) B g):=by
   rw [←hE]
   simp only [examB,examL]
   rw [hX,hXk]
   simp only
   rw [if_pos har]
   cases exam c ((n.name,k) :: s) B g<;>rfl
  rw [hEe]
  exact cg
 refine SoundP.of_sound (Sound.of_awp Tryz.call96 Tryz.func96 rfl (Nat.le_of_ble_eq_true (by kernel_rfl)) (by kernel_rfl) (pl:={ mt:=[3] }) ?_)
 by_cases h15:n.op=15
 case' pos =>
  have hBt:=hB2 h15
  subst hBt
 case' neg =>
  have hBt:=hB3 h15
  subst hBt
 all_goals
  simp [go_sem,h15,hks,cNd_ones]
  refine DrawGo.seg [0,1,2,3,4,5,6,7,8,9,10,11,12,13] [(0,0,[]),(1,0,[]),(2,0,[]),(3,0,[]),(4,0,[]),(5,0,[]),(6,1,[]),(7,0,[]),(8,0,[]),(9,0,[]),(10,2,[0,3,5]),(11,2,[0,3,5]),(12,1,[]),(13,1,[])] (by kernel_rfl) (by kernel_rfl) (by simp [go_sem]) ?_
  simp [go_sem,h15,hks,cNd_ones]
  refine CallStep.pure ca w1 ?_
  simp [go_sem,hB_len,tk,pc,hks,cNd_ones]
  rw [if_pos (hB_one _)]
  generalize hP:putCells _ 0 (aI S.1 :: hB S.2)=P
  have hP2:P=aI S.1 :: hB S.2:=by rw [←hP];exact pc (aI 0) _ (fun _=>false) _
  subst hP2
  clear hP
  simp [go_sem,hB_len,tk,pc]
 all_goals
  cases X with
  |error e =>
   have he:=herr e (Nat.le_refl _) rfl
   have he0:¬e.1=0:=by omega
   have hEe:E=e:=by rw [←hE];simp only [examB];rw [hX];rfl
   subst hEe
   clear hE
   simp [go_sem,dgOf,he0]
   refine DrawGo.float [] [0,1] [(2,true),(3,false)] (by kernel_rfl) (by kernel_rfl) (by kernel_rfl) ?_
   simp [go_sem,dgOf,he0]
   exact .hf _ (hf_end zR E)
  |ok ko =>
   obtain ⟨q,rfl,hq⟩:=hok ko (Nat.le_refl _) wa hs rfl hka
   have hSq:=hS hka q rfl
   subst hSq
   have haq:(setOf q).1=q.ar:=rfl
   by_cases har:q.ar=1
   ·have har':(setOf q).1=1:=haq.trans har
    obtain ⟨S2,cg⟩:=ihg2 q hq har rfl
    have hbs:bindS (.ok (some q))=setOf q:=if_pos har
    rw [hbs]
    have henv:envS ((n.name,q) :: s)=envS s++[(n.name,setOf q)]:=by simp [envS]
    rw [henv] at cg
    generalize setOf q=Q at *
    obtain ⟨qa,qf⟩:=Q
    have har'':qa=1:=har'
    subst har''
    simp [go_sem,dgOf]
    refine DrawGo.seg [0,1,2,4,5,6,7,8,10,11,12,13,3,9,14,15,16,17,18,19,20,21] [(0,0,[]),(1,0,[]),(2,0,[]),(4,0,[]),(5,0,[]),(6,0,[]),(7,0,[]),(8,0,[]),(10,0,[]),(11,0,[]),(12,0,[]),(13,0,[]),(3,1,[0,5,6,11,13]),(9,1,[0,11,13]),(14,1,[]),(15,0,[]),(16,0,[]),(17,0,[]),(18,2,[0,5,6,11,13]),(19,2,[0,5,6,11,13]),(20,1,[]),(21,1,[])] (by kernel_rfl) (by kernel_rfl) (by simp [go_sem]) ?_
    simp [go_sem,dgOf,hB_len,tk,pc,hks,cNd_ones]
    rw [if_pos (hB_one _)]
    generalize hC:putCells _ 1 _=C
    have hC2:C=cVr (n.name,(1,qf)):=by rw [←hC];exact pcV n.name (1,qf)
    subst hC2
    clear hC
    have hcl:(cVr (n.name,((1:Int),qf))).length=66:=by simp [hB_len]
    have hco:=cVr_one (n.name,((1:Int),qf))
    generalize hV:cVr (n.name,((1:Int),qf))=V at *
    simp [go_sem,dgOf,hB_len,tk,pc,hks,cNd_ones,hcl]
    rw [if_pos hco]
    simp [go_sem,dgOf,hB_len,tk,pc,hks,cNd_ones,hcl]
    refine appVr (lo:=5) (xs:=[]) (ys:=envS s) (OwnF.nil (by simp)) (by simp [rowsOf]) (by simp [envS_len];omega) fun av1 m1 ho1 hm1=>?_
    have k0:=hm1 0 (by omega)
    have k1:=hm1 1 (by omega)
    have k2:=hm1 2 (by omega)
    have k3:=hm1 3 (by omega)
    have k4:=hm1 4 (by omega)
    simp at k0 k1 k2 k3 k4
    simp [go_sem,dgOf,hB_len,tk,pc,hks,cNd_ones,k0,k1,k2,k3,k4]
    refine appVr (xs:=[]++envS s) (ys:=[(n.name,(1,qf))]) ho1 (by simp [rowsOf,hV]) (by simp [envS_len];omega) fun av2 m2 ho2 hm2=>?_
    rw [List.nil_append] at ho2
    have hml:=ho2.2.2
    replace k0:=(hm2 0 (by omega)).trans k0
    replace k1:=(hm2 1 (by omega)).trans k1
    replace k2:=(hm2 2 (by omega)).trans k2
    replace k3:=(hm2 3 (by omega)).trans k3
    replace k4:=(hm2 4 (by omega)).trans k4
    have hpush:∀(l:List Cell) (i:Nat),i<m2.length→(m2++l)[i]?=m2[i]?:=fun l i hi=>List.getElem?_append_left hi
    have g0:=(List.getElem?_eq_some_iff.1 k0).2
    have g1:=(List.getElem?_eq_some_iff.1 k1).2
    have g2:=(List.getElem?_eq_some_iff.1 k2).2
    have g3:=(List.getElem?_eq_some_iff.1 k3).2
    simp [go_sem,dgOf,hB_len,tk,pc,hks,cNd_ones,k0,k1,k2,k3,k4]
    refine CallStep.lend (args':=[eVw c _,lVr (envS s++[(n.name,(1,qf))]),eNd g]) cg ⟨.hf _ (hf_eVw c _),rdVr ho2,.hf _ (hf_eNd g),trivial⟩ (fl_res S2 _) ?_
    have p0:=fun l=>(hpush l 0 (by omega)).trans k0
    have p1:=fun l=>(hpush l 1 (by omega)).trans k1
    have p2:=fun l=>(hpush l 2 (by omega)).trans k2
    have p3:=fun l=>(hpush l 3 (by omega)).trans k3
    have p4:=fun l=>(hpush l 4 (by omega)).trans k4
    have hl0:0<m2.length:=by omega
    have hl3:3<m2.length:=by omega
    simp [go_sem,dgOf,hB_len,tk,pc,hks,cNd_ones,k0,k1,k2,k3,k4,g0,g1,g2,g3,hl0,hl3,p0,p1,p2,p3,p4]
    rw [if_pos (hB_one _)]
    generalize hP:putCells _ 0 (cRS S2)=P
    have hP2:P=cRS S2:=by rw [←hP];exact pc (aI 0) _ (fun _=>false) _
    subst hP2
    clear hP
    simp [go_sem,dgOf,hB_len,tk,pc,hks,cNd_ones,k0,k1,k2,k3,k4,g0,g1,g2,g3,hl0,hl3,p0,p1,p2,p3,p4]
    obtain ⟨rr,hrr⟩:=five k0 k1 k2 k3 k4
    have hrl:m2.length=rr.length+5:=by rw [hrr];rfl
    clear g0 g1 g2 g3 p0 p1 p2 p3 p4 hpush ho2 hm2 k0 k1 k2 k3 k4 hml hl0 hl3
    refine DrawGo.seg [0,1,2,3] [(0,0,[]),(1,0,[]),(2,1,[1]),(3,1,[])] (by kernel_rfl) (by kernel_rfl) (by simp [go_sem]) ?_
    simp [go_sem,dgOf,hB_len,tk,pc,hks,cNd_ones,hrr]
    rw [if_pos (hB_one _)]
    generalize hP:putCells _ 0 (aI 1 :: hB qf)=P
    have hP2:P=aI 1 :: hB qf:=by rw [←hP];exact pc (aI 0) (aI 1) (fun _=>false) qf
    subst hP2
    clear hP
    simp [go_sem,dgOf,hB_len,tk,pc,hks,cNd_ones,hrr]
    exact .hf _ (hf_end (1,qf) E)
   ·have har':¬(setOf q).1=1:=fun e=>har (haq.symm.trans e)
    have hbs:bindS (.ok (some q))=zR:=if_neg har
    rw [hbs]
    have hEe:E=(42,n.pos):=by
     rw [←hE]
     simp only [examB]
     rw [hX]
     simp only
     rw [if_neg har]
     rfl
    subst hEe
    clear hE
    generalize setOf q=Q at *
    simp [go_sem,dgOf,har']
    refine DrawGo.float [] [0,1,2,3] [(4,true),(5,false)] (by kernel_rfl) (by kernel_rfl) (by kernel_rfl) ?_
    simp [go_sem,dgOf]
    exact .hf _ (hf_end zR (42,n.pos))
theorem applyR2U (ts:TS) (ok:okTS ts) (n:Nd) (l:List (Option Kd)) (e1:n.op≠1) (e15:n.op≠15)
  (h1:n.op=5∨n.op=11∨n.op=12∨n.op=13→∃ a,l=[some a]∧okKd ts.sorts.length a)
  (h2:n.op=6∨n.op=14∨n.op=7∨n.op=8∨n.op=32∨n.op=33∨n.op=9∨n.op=10→∃ a b,l=[some a,some b]∧okKd ts.sorts.length a∧okKd ts.sorts.length b) :
  ∃ S b,(∀ L:List RS,((n.op=5∨n.op=11∨n.op=12∨n.op=13)∨(n.op=6∨n.op=14∨n.op=7∨n.op=8∨n.op=32∨n.op=33∨n.op=9∨n.op=10)→L=l.map setO)→prC ts n L S b)∧ApE n.op (applyK ts.sorts.length n.op n.n n.pos l) S b:=by
 by_cases hr:(n.op=5∨n.op=11∨n.op=12∨n.op=13)∨(n.op=6∨n.op=14∨n.op=7∨n.op=8∨n.op=32∨n.op=33∨n.op=9∨n.op=10)
 ·obtain ⟨S,b,c,a⟩:=applyRU ts ok n l (l.map setO) e1 e15 (fun h=>by obtain ⟨a,rfl,ha⟩:=h1 h;exact ⟨a,rfl,rfl,ha⟩) (fun h=>by obtain ⟨a,b,rfl,ha,hb⟩:=h2 h;exact ⟨a,b,rfl,rfl,ha,hb⟩)
  exact ⟨S,b,fun L hL=>by rw [hL hr];exact c,a⟩
 by_cases o2:n.op=2
 ·refine ⟨setOf ⟨n.n,[]⟩,true,fun L _=>prC_eq (none_set n.n) (ap2 ts n L o2),?_⟩
  unfold applyK;rw [if_pos o2]
  exact ⟨rfl,fun _=>⟨_,rfl,rfl⟩⟩
 by_cases o3:n.op=3
 ·refine ⟨_,true,fun L _=>ap3 ts ok n L o3,?_⟩
  unfold applyK;rw [if_neg o2,if_pos o3]
  exact ⟨rfl,fun _=>⟨_,rfl,rfl⟩⟩
 by_cases o4:n.op=4
 ·refine ⟨_,true,fun L _=>ap4 ts ok n L o4,?_⟩
  unfold applyK;rw [if_neg o2,if_neg o3,if_pos o4]
  exact ⟨rfl,fun _=>⟨_,rfl,rfl⟩⟩
 refine ⟨zR,true,fun L _=>apO ts n L o2 o3 o4 (by omega) (by omega) (by omega) (by omega) (by omega) (by omega) (by omega) (by omega) (by omega) (by omega) (by omega) (by omega),?_⟩
 rw [applyK_other o2 o3 o4 (by omega) (by omega) (by omega) (by omega) (by omega) (by omega) (by omega) (by omega) (by omega) (by omega) (by omega) (by omega)]
 refine ⟨rfl,fun hk=>?_⟩
 have:=of_kd hk
 omega
def resS:Res→RS
 | .ok (some k)=>setOf k
 |_=>zR
theorem endR_eq (R:Res):endR zR R = .tup [eRS (resS R),eDg (dgOf R)]:=by
 cases R with
 |error e=>rfl
 |ok k=>cases k<;>rfl
end Go.Proofs.YtcfopdccdeeleaaGreatDoor.QR


namespace Go.Proofs.YtcfopdccdeeleaaGreatDoor.QS
open Go Go.Ev Go.Proofs Go.Proofs.YtcfopdccdeeleaaGreatDoor YM YZ YF Y9 Y10 Y1 Y2 Y3 Y12 Y13 P1 P2 PA PB QD QE QF QG QH QI QJ QK QL QM QN PG QO QR
theorem time_eq (c:Ck) (op:Int) (nm:ByteArray):timeOfL c op nm=(timeOp op||(decide (op=47)&&tpB c nm)):=rfl
theorem apply_42 {ns:Nat} {op n pos:Int} {l:List (Option Kd)} {e:Dg} (h:applyK ns op n pos l = .error e):e=(42,pos):=by
 unfold applyK at h
 repeat' split at h
 all_goals first
  | (cases h;done)
  | (cases h;rfl)
theorem wkTP (c:Ck) (nm:ByteArray):WKs [eTS c.ts,lBo c.timed,aI c.calls,aS nm] [eTS c.ts,lBo c.timed,aI c.calls,aS nm] := .cons (.hf (hf_eTS _)) (.cons (.hf (hf_lBo _)) (.cons (.hf (HF.sc _)) (.cons (.hf (HF.sc _)) .nil)))
theorem wk1I (k:Int):WKs [aI k] [aI k] := .cons (.hf (HF.sc _)) .nil
theorem fl_sb (s:RS) (b:Bool):FL (.tup [eRS s,aB b]):=FL.tup fun x hx=>by
 rcases List.mem_cons.1 hx with rfl | hx
 ·exact FL.agg fun c hc=>by
   rcases List.mem_cons.1 hc with rfl | hc
   ·exact FL.sc _
   ·obtain ⟨j,_,rfl⟩:=List.mem_map.1 hc
    exact FL.sc _
 ·rw [List.mem_singleton] at hx;subst hx;exact FL.sc _
theorem ex_time (c:Ck) (hc:okCk c) (s:Scp) (n:Nd) (ht:timeOfL c n.op n.name=true):ExR c s true n:=by
 refine ⟨zR,?_,fun _ q h=>?_⟩
 case refine_2=>rw [exam_eq,if_pos (by simp [ht])] at h;cases h
 have hx:exam c s true n = .error (46,n.pos):=by rw [exam_eq,if_pos (by simp [ht])]
 rw [hx]
 rw [time_eq] at ht
 refine SoundP.of_sound (Sound.of_awp Tryz.call46 Tryz.func46 rfl (Nat.le_of_ble_eq_true (by kernel_rfl)) (by kernel_rfl) (pl:={ mt:=[3] }) ?_)
 have ct:=timedU n.op
 have cp:=temporalPredU c hc n.name
 simp [go_sem]
 refine CallStep.pure ct (wk1I _) ?_
 cases hT:timeOp n.op with
 |true =>
  simp [go_sem]
  refine DrawGo.float [] [0,1,2,3] [(4,true),(5,false)] (by kernel_rfl) (by kernel_rfl) (by kernel_rfl) ?_
  simp [go_sem,dgOf]
  exact .hf _ (hf_end zR (46,n.pos))
 |false =>
  rw [hT,Bool.false_or,Bool.and_eq_true] at ht
  obtain ⟨h47,hB⟩:=ht
  have h47:n.op=47:=by simpa using h47
  simp [go_sem,h47]
  refine CallStep.pure cp (wkTP c n.name) ?_
  rw [hB]
  simp [go_sem]
  refine DrawGo.float [] [0,1,2,3] [(4,true),(5,false)] (by kernel_rfl) (by kernel_rfl) (by kernel_rfl) ?_
  simp [go_sem,dgOf]
  exact .hf _ (hf_end zR (46,n.pos))
theorem ex_name (c:Ck) (hc:okCk c) (s:Scp) (hsl:s.length≤100000) (inn:Bool) (n:Nd) (h1:n.op=1):ExR c s inn n:=by
 have hx:exam c s inn n=nameK c s n.name n.pos:=by
  rw [exam_eq,time_eq,h1,show timeOp 1=false from rfl]
  simp
 refine ⟨resS (nameK c s n.name n.pos),?_,fun _ q h=>by rw [hx] at h;rw [h];rfl⟩
 rw [hx]
 have cn:=nameU c hc inn s n hsl
 rw [endR_eq] at cn
 generalize resS (nameK c s n.name n.pos)=S at *
 generalize dgOf (nameK c s n.name n.pos)=D at *
 refine SoundP.of_sound (Sound.of_awp Tryz.call46 Tryz.func46 rfl (Nat.le_of_ble_eq_true (by kernel_rfl)) (by kernel_rfl) (pl:={ mt:=[3] }) ?_)
 have ct:=timedU n.op
 have cp:=temporalPredU c hc n.name
 have hT:timeOp n.op=false:=by rw [h1];rfl
 rw [hT] at ct
 have wn:=wkE c inn (envS s) n
 cases inn
 case' true =>
  simp [go_sem]
  refine CallStep.pure ct (wk1I _) ?_
 all_goals
  simp [go_sem,h1]
  refine CallStep.pure cn wn ?_
  simp [go_sem,hB_len,QE.tk,pc]
  rw [if_pos (hB_one _)]
  generalize hP:putCells _ 0 (aI S.1 :: hB S.2)=P
  have hP2:P=aI S.1 :: hB S.2:=by rw [←hP];exact pc (aI 0) _ (fun _=>false) _
  subst hP2
  clear hP
  simp [go_sem,hB_len,QE.tk,pc]
  exact .hf _ (hf_end S D)
theorem ex_call (c:Ck) (hc:okCk c) (s:Scp) (hs:ScOk c.ts.sorts.length s) (inn:Bool) (n:Nd) (hw:WfN n) (h47:n.op=47) (ht:(inn&&timeOfL c n.op n.name)=false) (ih:∀ k,k∈n.kids→ExR c s true k):ExR c s inn n:=by
 have hx:exam c s inn n=callK c s n:=by
  rw [exam_eq,ht,if_neg (by simp),if_neg (by omega),if_pos h47]
  rfl
 have cc:=callRU c hc s hs n hw h47 ih inn
 refine ⟨zR,?_,fun hk=>by rw [h47] at hk;exact absurd hk (by decide)⟩
 rw [hx]
 generalize dgOf (callK c s n)=D at *
 refine SoundP.of_sound (Sound.of_awp Tryz.call46 Tryz.func46 rfl (Nat.le_of_ble_eq_true (by kernel_rfl)) (by kernel_rfl) (pl:={ mt:=[3] }) ?_)
 have ct:=timedU n.op
 have cp:=temporalPredU c hc n.name
 have hT:timeOp n.op=false:=by rw [h47];rfl
 rw [hT] at ct
 have wn:=wkE c inn (envS s) n
 cases inn
 case' true =>
  rw [Bool.true_and,time_eq,hT,h47] at ht
  have hB:tpB c n.name=false:=by simpa using ht
  rw [hB] at cp
  simp [go_sem]
  refine CallStep.pure ct (wk1I _) ?_
  simp [go_sem,h47]
  refine CallStep.pure cp (wkTP c n.name) ?_
 all_goals
  simp [go_sem,h47]
  refine CallStep.pure cc wn ?_
  simp [go_sem]
  exact .hf _ (hf_end zR D)
theorem ex_bind (c:Ck) (hc:okCk c) (s:Scp) (hs:ScOk c.ts.sorts.length s) (hsl:s.length≤90000) (inn:Bool) (n:Nd) (hw:WfN n) (hb:n.op=15∨n.op=45∨n.op=46) (ht:(inn&&timeOfL c n.op n.name)=false) (ih:∀ k,k∈n.kids→∀ s',ScOk c.ts.sorts.length s'→s'.length≤s.length+1→∀ inn,ExR c s' inn k):ExR c s inn n:=by
 have hx:exam c s inn n=examB c s (inn||decide (n.op=15)) n.name n.pos n.kids:=by
  rw [exam_eq,ht,if_neg (by simp),if_neg (by omega),if_neg (by omega),if_pos hb]
 obtain ⟨a,g,hks,hka⟩:=shp_bind hw hb
 have cb:=binderRU c hc s hs hsl n a g hw hb hks hka inn (ih a (by rw [hks];simp) s hs (by omega) _) (fun k hk har=>ih g (by rw [hks];simp) _ (fun v hv=>by
  rcases List.mem_cons.1 hv with rfl | hv
  ·exact ⟨hk,har⟩
  ·exact hs v hv) (by simp) _)
 refine ⟨bindS (exam c s (inn||decide (n.op=15)) a),?_,fun _ q h=>?_⟩
 case refine_2 =>
  rw [hx,hks] at h
  simp only [examB] at h
  split at h
  ·cases h
  ·cases h
  ·rename_i k hk
   split at h
   ·rename_i har
    split at h
    ·cases h
    ·cases h
     rw [hk]
     exact if_pos har
   ·cases h
 rw [hx]
 generalize bindS (exam c s (inn||decide (n.op=15)) a)=S at *
 generalize dgOf (examB c s (inn||decide (n.op=15)) n.name n.pos n.kids)=D at *
 refine SoundP.of_sound (Sound.of_awp Tryz.call46 Tryz.func46 rfl (Nat.le_of_ble_eq_true (by kernel_rfl)) (by kernel_rfl) (pl:={ mt:=[3] }) ?_)
 have ct:=timedU n.op
 have cp:=temporalPredU c hc n.name
 have h47:¬n.op=47:=by omega
 have hT:timeOp n.op=false:=by unfold timeOp;rcases hb with h | h | h<;>rw [h]<;>decide
 rw [hT] at ct
 have wn:=wkE c inn (envS s) n
 rcases hb with h | h | h
 all_goals
  rw [h] at ct
  cases inn
 all_goals
  simp [go_sem,h]
  try (refine CallStep.pure ct (wk1I _) ?_)
  try simp [go_sem,h]
  refine CallStep.pure cb wn ?_
  simp [go_sem,hB_len,QE.tk,pc]
  rw [if_pos (hB_one _)]
  generalize hP:putCells _ 0 (aI S.1 :: hB S.2)=P
  have hP2:P=aI S.1 :: hB S.2:=by rw [←hP];exact pc (aI 0) _ (fun _=>false) _
  subst hP2
  clear hP
  simp [go_sem,hB_len,QE.tk,pc]
  exact .hf _ (hf_end S D)
def seqL (X:Nd→Res):List Nd→Except Dg (List (Option Kd))
 | [] => .ok []
 |k :: ks=>match X k with
  | .error e => .error e
  | .ok a=>match seqL X ks with
   | .error e => .error e
   | .ok l => .ok (a :: l)
theorem examL_seq (c:Ck) (s:Scp) (B:Bool):∀ ks:List Nd,examL c s B ks=seqL (exam c s B) ks
 | []=>by simp only [examL,seqL]
 |k :: ks=>by simp only [examL,seqL];rw [examL_seq c s B ks];cases exam c s B k with
  |error e=>rfl
  |ok a=>cases seqL (exam c s B) ks<;>rfl
theorem three {α:Type} {l:List α} {a b c:α} (h0:l[0]?=some a) (h1:l[1]?=some b) (h2:l[2]?=some c):∃ r,l=a :: b :: c :: r:=by
 match l,h0,h1,h2 with
 |_ :: _ :: _ :: r,h0,h1,h2 =>
  simp at h0 h1 h2
  exact ⟨r,by rw [h0,h1,h2]⟩
theorem kids_rel {n:Nd} (hw:WfN n) (h:(n.op=5∨n.op=11∨n.op=12∨n.op=13)∨(n.op=6∨n.op=14∨n.op=7∨n.op=8∨n.op=32∨n.op=33∨n.op=9∨n.op=10)):∀ x,x∈n.kids→kd x.op=101:=by
 have hs:=hw.shape
 intro x hx
 have hm:kd x.op∈n.kids.map fun k=>kd k.op:=List.mem_map.2 ⟨x,hx,rfl⟩
 rcases h with h | h
 ·unfold shp at hs
  rw [if_neg (by omega),if_pos (by omega)] at hs
  simp only [Option.some.injEq] at hs
  rw [←hs] at hm
  simpa using hm
 ·unfold shp at hs
  rw [if_neg (by omega),if_neg (by omega),if_pos (by omega)] at hs
  simp only [Option.some.injEq] at hs
  rw [←hs] at hm
  simpa using hm
theorem ex_tT12 (c:Ck) (hc:okCk c) (s:Scp) (n:Nd) (B:Bool) (X:Nd→Res) (S:RS) (D:Dg) (h1:¬n.op=1) (h47:¬n.op=47) (hb:¬(n.op=15∨n.op=45∨n.op=46)) (hw:WfN n) (hkl:n.kids.length≤401) (hT:timeOp n.op=false) (h12:n.op=12) (h13:¬n.op=13) (hBt:B=true)
  (hX1:∀ k,k∈n.kids→∃ S,SoundP Tryz.prog 46 [eVw c B,lVr (envS s),eNd k] (.tup [eRS S,eDg (dgOf (X k))])∧(kd k.op=101→∀ q,X k = .ok (some q)→S=setOf q))
  (hXok:∀ k a,k∈n.kids→X k = .ok a→kd k.op=101→∃ q,a=some q∧okKd c.ts.sorts.length q)
  (hXerr:∀ k e,X k = .error e→40≤e.1)
  (hfe:∀ e,seqL X n.kids = .error e→S=zR∧D=e)
  (hfo:∀ l,seqL X n.kids = .ok l→∃ S' b,(∀ L:List RS,((n.op=5∨n.op=11∨n.op=12∨n.op=13)∨(n.op=6∨n.op=14∨n.op=7∨n.op=8∨n.op=32∨n.op=33∨n.op=9∨n.op=10)→L=l.map setO)→prC c.ts n L S' b)∧(b=true→S=S'∧D=(0,0))∧(b=false→S=zR∧D=(42,n.pos))) :
  SoundP Tryz.prog 46 [eVw c true,lVr (envS s),eNd n] (.tup [eRS S,eDg D]):=by
 simp only [not_or] at hb
 obtain ⟨b1,b2,b3⟩:=hb
 refine SoundP.of_sound (Sound.of_awp Tryz.call46 Tryz.func46 rfl (Nat.le_of_ble_eq_true (by kernel_rfl)) (by kernel_rfl) (pl:={ mt:=[3] }) ?_)
 have ct:=timedU n.op
 have cp:=temporalPredU c hc n.name
 rw [hT] at ct
 simp [go_sem]
 refine CallStep.pure ct (wk1I _) ?_
 simp [go_sem,h1,h47,b1,b2,b3]
 simp [go_sem,h12]
 refine LoopGo.upK n.kids.length (fun k st=>∃(acc:List (Option Kd)) (L:List RS),acc.length=k∧L.length=k∧st.tm 1=lVr (envS s)∧st.tm 3 = .ptr 0 0∧st.tm 5 = .ip (cNd n)∧st.tm 6 = .ptr 1 0∧st.tm 7 = .ptr 2 0∧st.tm 9=aI k∧st.mu[0]?=some (.arr (cVw c B))∧st.mu[1]?=some (.arr (aI 0 :: hB fun _=>false))∧st.mu[2]?=some (.arr [aI 0,aI 0])∧OwnF 3 st.mu 65 (st.tm 8) (L.map cRS)∧(∀(i:Nat) x,n.kids[i]?=some x→i<k→kd x.op=101→∃ q,acc[i]?=some (some q)∧L[i]?=some (setOf q))∧seqL X n.kids=(match seqL X (n.kids.drop k) with | .error e => .error e | .ok l => .ok (acc++l))) ?_ ?_
 ·refine ⟨[],[],rfl,rfl,by simp [go_sem],by simp [go_sem],by simp [go_sem],by simp [go_sem],by simp [go_sem],by simp [go_sem],by rw [hBt];simp [go_sem],by simp [go_sem];rfl,by simp [go_sem],by simp [go_sem];exact OwnF.nil (by simp),fun i x _ h=>absurd h (by omega),?_⟩
  simp only [List.drop_zero,List.nil_append]
  cases seqL X n.kids<;>rfl
 rintro k st hk ⟨acc,L,hal,hll,e1,e3,e5,e6,e7,e9,m0,m1,m2,ho,hrel,hE⟩
 generalize h8:st.tm 8=av at *
 by_cases hlt:k<n.kids.length
 ·have w1:IntKind.i64.wrap ((k:Int)+1)=(k:Int)+1:=wrap_i64 (by omega) (by omega)
  obtain ⟨Sk,ck,hk1⟩:=hX1 n.kids[k] (List.getElem_mem hlt)
  rw [List.drop_eq_getElem_cons hlt] at hE
  simp only [seqL] at hE
  simp [go_sem,e1,e3,e5,e6,e7,e9,h8,hlt,cNd_ones]
  refine DrawGo.seg [0,1,2,3,4,5,6,7,8,9,10,11,12,13,14] [(0,0,[]),(1,0,[]),(2,0,[]),(3,0,[]),(4,0,[]),(5,0,[]),(6,0,[]),(7,1,[]),(8,0,[]),(9,0,[]),(10,0,[]),(11,2,[0,3,6]),(12,2,[0,3,6]),(13,1,[]),(14,1,[])] (by kernel_rfl) (by kernel_rfl) (by simp [go_sem]) ?_
  have hml:2<st.mu.length:=(List.getElem?_eq_some_iff.1 m2).1
  have hpush:∀(l:List Cell) (i:Nat),i<st.mu.length→(st.mu++l)[i]?=st.mu[i]?:=fun l i hi=>List.getElem?_append_left hi
  have p0:=fun l=>(hpush l 0 (by omega)).trans m0
  have p1:=fun l=>(hpush l 1 (by omega)).trans m1
  have p2:=fun l=>(hpush l 2 (by omega)).trans m2
  have g0:=(List.getElem?_eq_some_iff.1 m0).2
  have g1:=(List.getElem?_eq_some_iff.1 m1).2
  have g2:=(List.getElem?_eq_some_iff.1 m2).2
  have hl0:0<st.mu.length:=by omega
  have hl1:1<st.mu.length:=by omega
  simp [go_sem,e1,e3,e5,e6,e7,e9,h8,hlt,cNd_ones,m0]
  refine CallStep.pure ck (wkE c _ _ _) ?_
  cases hx:X n.kids[k] with
  |error e =>
   have he:=hXerr _ _ hx
   have he0:¬e.1=0:=by omega
   rw [hx] at hE
   have hE:seqL X n.kids = .error e:=hE
   obtain ⟨hS0,hD0⟩:=hfe e hE
   rw [hS0,hD0]
   simp [go_sem,e1,e3,e5,e6,e7,e9,h8,hlt,cNd_ones,m0,g0,p0,hl0,hB_len,QE.tk,pc,he0,dgOf]
   rw [if_pos (hB_one _)]
   generalize hP:putCells _ 0 (cRS Sk)=P
   have hP2:P=cRS Sk:=by rw [←hP];exact pc (aI 0) _ (fun _=>false) _
   subst hP2
   clear hP
   simp [go_sem,e1,e3,e5,e6,e7,e9,h8,hlt,cNd_ones,m0,g0,p0,hl0,hB_len,QE.tk,pc,he0,dgOf]
   refine DrawGo.seg [0,1,2,3] [(0,0,[]),(1,0,[]),(2,1,[1]),(3,1,[])] (by kernel_rfl) (by kernel_rfl) (by simp [go_sem]) ?_
   simp [go_sem,e1,e3,e5,e6,e7,e9,h8,hlt,cNd_ones,m0,g0,p0,hl0,hB_len,QE.tk,pc,he0,dgOf,p1,p2,g1,g2,hl1,hml]
   exact .hf _ (hf_end zR e)
  |ok a =>
   rw [hx] at hE
   simp only at hE
   simp [go_sem,e1,e3,e5,e6,e7,e9,h8,hlt,cNd_ones,m0,g0,p0,hl0,hB_len,QE.tk,pc,dgOf]
   rw [if_pos (hB_one _)]
   generalize hP:putCells _ 0 (cRS Sk)=P
   have hP2:P=cRS Sk:=by rw [←hP];exact pc (aI 0) _ (fun _=>false) _
   subst hP2
   clear hP
   simp [go_sem,e1,e3,e5,e6,e7,e9,h8,hlt,cNd_ones,m0,g0,p0,hl0,hB_len,QE.tk,pc,dgOf]
   rw [if_pos (hB_one _)]
   simp [go_sem,e1,e3,e5,e6,e7,e9,h8,hlt]
   refine appRS (lo:=3) (xs:=L) (ys:=[Sk]) ⟨by simpa using own_push (own_push ho.1 _) _,ho.2.1,by have:=ho.2.2;simp;omega⟩ (by simp [rowsOf]) (by simp;omega) fun av' m' ho' hm'=>?_
   simp [go_sem,e1,e3,e5,e6,e7,e9,h8,hlt,w1]
   refine Keep.mk' ⟨acc++[a],L++[Sk],by simp [hal],by simp [hll],by simp [go_sem,e1],by simp [go_sem,e3],by simp [go_sem,e5],by simp [go_sem,e6],by simp [go_sem,e7],by simp [go_sem],?_,?_,?_,by simpa [go_sem] using ho',fun i x hi hik hkd=>?_,?_⟩
   ·simp only [put_mu];exact (hm' 0 (by omega)).trans (p0 _)
   ·simp only [put_mu];exact (hm' 1 (by omega)).trans (p1 _)
   ·simp only [put_mu];exact (hm' 2 (by omega)).trans (p2 _)
   ·by_cases hik2:i=k
    ·subst hik2
     rw [List.getElem?_eq_getElem hlt] at hi
     cases hi
     obtain ⟨q,rfl,_⟩:=hXok _ a (List.getElem_mem hlt) hx hkd
     refine ⟨q,?_,?_⟩
     ·rw [List.getElem?_append_right (by omega),hal];simp
     ·rw [List.getElem?_append_right (by omega),hll];simp [hk1 hkd q hx]
    ·obtain ⟨q,q1,q2⟩:=hrel i x hi (by omega) hkd
     exact ⟨q,by rw [List.getElem?_append_left (by omega)];exact q1,by rw [List.getElem?_append_left (by omega)];exact q2⟩
   ·rw [hE]
    cases seqL X (n.kids.drop (k+1)) with
    |error e=>rfl
    |ok l=>simp
 ·have hkl':k=n.kids.length:=by omega
  subst hkl'
  rw [List.drop_length] at hE
  have hE:seqL X n.kids = .ok acc:=by rw [hE];simp only [seqL,List.append_nil]
  obtain ⟨S',b,q1,q2,q3⟩:=hfo acc hE
  have hL:((n.op=5∨n.op=11∨n.op=12∨n.op=13)∨(n.op=6∨n.op=14∨n.op=7∨n.op=8∨n.op=32∨n.op=33∨n.op=9∨n.op=10))→L=acc.map setO:=fun h=>by
   have hkd:∀ x,x∈n.kids→kd x.op=101:=fun x hx=>kids_rel hw h x hx
   refine List.ext_getElem? fun i=>?_
   by_cases hi:i<n.kids.length
   ·obtain ⟨q,e1,e2⟩:=hrel i n.kids[i] (by simp [hi]) hi (hkd _ (List.getElem_mem hi))
    rw [e2,List.getElem?_map,e1];rfl
   ·rw [List.getElem?_eq_none (by omega),List.getElem?_eq_none (by simp;omega)]
  have hp:=q1 L hL
  unfold prC at hp
  have hml:2<st.mu.length:=(List.getElem?_eq_some_iff.1 m2).1
  have hpush:∀(l:List Cell) (i:Nat),i<st.mu.length→(st.mu++l)[i]?=st.mu[i]?:=fun l i hi=>List.getElem?_append_left hi
  obtain ⟨rr,hrr⟩:=three m0 m1 m2
  simp [go_sem,e1,e3,e5,e6,e7,e9,h8,cNd_ones,m0]
  refine CallStep.lend (args':=[eTS c.ts,eNd n,lRS L]) hp ⟨.hf _ (hf_eTS _),.hf _ (hf_eNd n),rdRS ho,trivial⟩ (fl_sb S' b) ?_
  have hrl:st.mu.length=rr.length+3:=by rw [hrr];rfl
  clear m0 m1 m2 hpush ho
  simp [go_sem,e1,e3,e5,e6,e7,e9,h8,cNd_ones,hrr,hB_len,QE.tk,pc]
  rw [if_pos (hB_one _)]
  generalize hP:putCells _ 0 (cRS S')=P
  have hP2:P=cRS S':=by rw [←hP];exact pc (aI 0) _ (fun _=>false) _
  subst hP2
  clear hP
  cases b with
  |true =>
   obtain ⟨rfl,rfl⟩:=q2 rfl
   simp [go_sem,e1,e3,e5,e6,e7,e9,h8,hrr,hB_len,QE.tk,pc]
   rw [if_pos (hB_one _)]
   simp [go_sem,e1,e3,e5,e6,e7,e9,h8,hrr,hB_len,QE.tk,pc]
   exact .hf _ (hf_end S (0,0))
  |false =>
   obtain ⟨rfl,rfl⟩:=q3 rfl
   simp [go_sem,e1,e3,e5,e6,e7,e9,h8,hrr,hB_len,QE.tk,pc]
   refine DrawGo.seg [0,1,2,3,4,5] [(0,0,[]),(1,0,[]),(2,0,[]),(3,0,[]),(4,1,[2]),(5,1,[])] (by kernel_rfl) (by kernel_rfl) (by simp [go_sem]) ?_
   simp [go_sem,e1,e3,e5,e6,e7,e9,h8,hrr,hB_len,QE.tk,pc]
   exact .hf _ (hf_end zR (42,n.pos))
theorem ex_tT13 (c:Ck) (hc:okCk c) (s:Scp) (n:Nd) (B:Bool) (X:Nd→Res) (S:RS) (D:Dg) (h1:¬n.op=1) (h47:¬n.op=47) (hb:¬(n.op=15∨n.op=45∨n.op=46)) (hw:WfN n) (hkl:n.kids.length≤401) (hT:timeOp n.op=false) (h12:¬n.op=12) (h13:n.op=13) (hBt:B=true)
  (hX1:∀ k,k∈n.kids→∃ S,SoundP Tryz.prog 46 [eVw c B,lVr (envS s),eNd k] (.tup [eRS S,eDg (dgOf (X k))])∧(kd k.op=101→∀ q,X k = .ok (some q)→S=setOf q))
  (hXok:∀ k a,k∈n.kids→X k = .ok a→kd k.op=101→∃ q,a=some q∧okKd c.ts.sorts.length q)
  (hXerr:∀ k e,X k = .error e→40≤e.1)
  (hfe:∀ e,seqL X n.kids = .error e→S=zR∧D=e)
  (hfo:∀ l,seqL X n.kids = .ok l→∃ S' b,(∀ L:List RS,((n.op=5∨n.op=11∨n.op=12∨n.op=13)∨(n.op=6∨n.op=14∨n.op=7∨n.op=8∨n.op=32∨n.op=33∨n.op=9∨n.op=10)→L=l.map setO)→prC c.ts n L S' b)∧(b=true→S=S'∧D=(0,0))∧(b=false→S=zR∧D=(42,n.pos))) :
  SoundP Tryz.prog 46 [eVw c true,lVr (envS s),eNd n] (.tup [eRS S,eDg D]):=by
 simp only [not_or] at hb
 obtain ⟨b1,b2,b3⟩:=hb
 refine SoundP.of_sound (Sound.of_awp Tryz.call46 Tryz.func46 rfl (Nat.le_of_ble_eq_true (by kernel_rfl)) (by kernel_rfl) (pl:={ mt:=[3] }) ?_)
 have ct:=timedU n.op
 have cp:=temporalPredU c hc n.name
 rw [hT] at ct
 simp [go_sem]
 refine CallStep.pure ct (wk1I _) ?_
 simp [go_sem,h1,h47,b1,b2,b3]
 simp [go_sem,h12,h13]
 refine LoopGo.upK n.kids.length (fun k st=>∃(acc:List (Option Kd)) (L:List RS),acc.length=k∧L.length=k∧st.tm 1=lVr (envS s)∧st.tm 3 = .ptr 0 0∧st.tm 5 = .ip (cNd n)∧st.tm 6 = .ptr 1 0∧st.tm 7 = .ptr 2 0∧st.tm 9=aI k∧st.mu[0]?=some (.arr (cVw c B))∧st.mu[1]?=some (.arr (aI 0 :: hB fun _=>false))∧st.mu[2]?=some (.arr [aI 0,aI 0])∧OwnF 3 st.mu 65 (st.tm 8) (L.map cRS)∧(∀(i:Nat) x,n.kids[i]?=some x→i<k→kd x.op=101→∃ q,acc[i]?=some (some q)∧L[i]?=some (setOf q))∧seqL X n.kids=(match seqL X (n.kids.drop k) with | .error e => .error e | .ok l => .ok (acc++l))) ?_ ?_
 ·refine ⟨[],[],rfl,rfl,by simp [go_sem],by simp [go_sem],by simp [go_sem],by simp [go_sem],by simp [go_sem],by simp [go_sem],by rw [hBt];simp [go_sem],by simp [go_sem];rfl,by simp [go_sem],by simp [go_sem];exact OwnF.nil (by simp),fun i x _ h=>absurd h (by omega),?_⟩
  simp only [List.drop_zero,List.nil_append]
  cases seqL X n.kids<;>rfl
 rintro k st hk ⟨acc,L,hal,hll,e1,e3,e5,e6,e7,e9,m0,m1,m2,ho,hrel,hE⟩
 generalize h8:st.tm 8=av at *
 by_cases hlt:k<n.kids.length
 ·have w1:IntKind.i64.wrap ((k:Int)+1)=(k:Int)+1:=wrap_i64 (by omega) (by omega)
  obtain ⟨Sk,ck,hk1⟩:=hX1 n.kids[k] (List.getElem_mem hlt)
  rw [List.drop_eq_getElem_cons hlt] at hE
  simp only [seqL] at hE
  simp [go_sem,e1,e3,e5,e6,e7,e9,h8,hlt,cNd_ones]
  refine DrawGo.seg [0,1,2,3,4,5,6,7,8,9,10,11,12,13,14] [(0,0,[]),(1,0,[]),(2,0,[]),(3,0,[]),(4,0,[]),(5,0,[]),(6,0,[]),(7,1,[]),(8,0,[]),(9,0,[]),(10,0,[]),(11,2,[0,3,6]),(12,2,[0,3,6]),(13,1,[]),(14,1,[])] (by kernel_rfl) (by kernel_rfl) (by simp [go_sem]) ?_
  have hml:2<st.mu.length:=(List.getElem?_eq_some_iff.1 m2).1
  have hpush:∀(l:List Cell) (i:Nat),i<st.mu.length→(st.mu++l)[i]?=st.mu[i]?:=fun l i hi=>List.getElem?_append_left hi
  have p0:=fun l=>(hpush l 0 (by omega)).trans m0
  have p1:=fun l=>(hpush l 1 (by omega)).trans m1
  have p2:=fun l=>(hpush l 2 (by omega)).trans m2
  have g0:=(List.getElem?_eq_some_iff.1 m0).2
  have g1:=(List.getElem?_eq_some_iff.1 m1).2
  have g2:=(List.getElem?_eq_some_iff.1 m2).2
  have hl0:0<st.mu.length:=by omega
  have hl1:1<st.mu.length:=by omega
  simp [go_sem,e1,e3,e5,e6,e7,e9,h8,hlt,cNd_ones,m0]
  refine CallStep.pure ck (wkE c _ _ _) ?_
  cases hx:X n.kids[k] with
  |error e =>
   have he:=hXerr _ _ hx
   have he0:¬e.1=0:=by omega
   rw [hx] at hE
   have hE:seqL X n.kids = .error e:=hE
   obtain ⟨hS0,hD0⟩:=hfe e hE
   rw [hS0,hD0]
   simp [go_sem,e1,e3,e5,e6,e7,e9,h8,hlt,cNd_ones,m0,g0,p0,hl0,hB_len,QE.tk,pc,he0,dgOf]
   rw [if_pos (hB_one _)]
   generalize hP:putCells _ 0 (cRS Sk)=P
   have hP2:P=cRS Sk:=by rw [←hP];exact pc (aI 0) _ (fun _=>false) _
   subst hP2
   clear hP
   simp [go_sem,e1,e3,e5,e6,e7,e9,h8,hlt,cNd_ones,m0,g0,p0,hl0,hB_len,QE.tk,pc,he0,dgOf]
   refine DrawGo.seg [0,1,2,3] [(0,0,[]),(1,0,[]),(2,1,[1]),(3,1,[])] (by kernel_rfl) (by kernel_rfl) (by simp [go_sem]) ?_
   simp [go_sem,e1,e3,e5,e6,e7,e9,h8,hlt,cNd_ones,m0,g0,p0,hl0,hB_len,QE.tk,pc,he0,dgOf,p1,p2,g1,g2,hl1,hml]
   exact .hf _ (hf_end zR e)
  |ok a =>
   rw [hx] at hE
   simp only at hE
   simp [go_sem,e1,e3,e5,e6,e7,e9,h8,hlt,cNd_ones,m0,g0,p0,hl0,hB_len,QE.tk,pc,dgOf]
   rw [if_pos (hB_one _)]
   generalize hP:putCells _ 0 (cRS Sk)=P
   have hP2:P=cRS Sk:=by rw [←hP];exact pc (aI 0) _ (fun _=>false) _
   subst hP2
   clear hP
   simp [go_sem,e1,e3,e5,e6,e7,e9,h8,hlt,cNd_ones,m0,g0,p0,hl0,hB_len,QE.tk,pc,dgOf]
   rw [if_pos (hB_one _)]
   simp [go_sem,e1,e3,e5,e6,e7,e9,h8,hlt]
   refine appRS (lo:=3) (xs:=L) (ys:=[Sk]) ⟨by simpa using own_push (own_push ho.1 _) _,ho.2.1,by have:=ho.2.2;simp;omega⟩ (by simp [rowsOf]) (by simp;omega) fun av' m' ho' hm'=>?_
   simp [go_sem,e1,e3,e5,e6,e7,e9,h8,hlt,w1]
   refine Keep.mk' ⟨acc++[a],L++[Sk],by simp [hal],by simp [hll],by simp [go_sem,e1],by simp [go_sem,e3],by simp [go_sem,e5],by simp [go_sem,e6],by simp [go_sem,e7],by simp [go_sem],?_,?_,?_,by simpa [go_sem] using ho',fun i x hi hik hkd=>?_,?_⟩
   ·simp only [put_mu];exact (hm' 0 (by omega)).trans (p0 _)
   ·simp only [put_mu];exact (hm' 1 (by omega)).trans (p1 _)
   ·simp only [put_mu];exact (hm' 2 (by omega)).trans (p2 _)
   ·by_cases hik2:i=k
    ·subst hik2
     rw [List.getElem?_eq_getElem hlt] at hi
     cases hi
     obtain ⟨q,rfl,_⟩:=hXok _ a (List.getElem_mem hlt) hx hkd
     refine ⟨q,?_,?_⟩
     ·rw [List.getElem?_append_right (by omega),hal];simp
     ·rw [List.getElem?_append_right (by omega),hll];simp [hk1 hkd q hx]
    ·obtain ⟨q,q1,q2⟩:=hrel i x hi (by omega) hkd
     exact ⟨q,by rw [List.getElem?_append_left (by omega)];exact q1,by rw [List.getElem?_append_left (by omega)];exact q2⟩
   ·rw [hE]
    cases seqL X (n.kids.drop (k+1)) with
    |error e=>rfl
    |ok l=>simp
 ·have hkl':k=n.kids.length:=by omega
  subst hkl'
  rw [List.drop_length] at hE
  have hE:seqL X n.kids = .ok acc:=by rw [hE];simp only [seqL,List.append_nil]
  obtain ⟨S',b,q1,q2,q3⟩:=hfo acc hE
  have hL:((n.op=5∨n.op=11∨n.op=12∨n.op=13)∨(n.op=6∨n.op=14∨n.op=7∨n.op=8∨n.op=32∨n.op=33∨n.op=9∨n.op=10))→L=acc.map setO:=fun h=>by
   have hkd:∀ x,x∈n.kids→kd x.op=101:=fun x hx=>kids_rel hw h x hx
   refine List.ext_getElem? fun i=>?_
   by_cases hi:i<n.kids.length
   ·obtain ⟨q,e1,e2⟩:=hrel i n.kids[i] (by simp [hi]) hi (hkd _ (List.getElem_mem hi))
    rw [e2,List.getElem?_map,e1];rfl
   ·rw [List.getElem?_eq_none (by omega),List.getElem?_eq_none (by simp;omega)]
  have hp:=q1 L hL
  unfold prC at hp
  have hml:2<st.mu.length:=(List.getElem?_eq_some_iff.1 m2).1
  have hpush:∀(l:List Cell) (i:Nat),i<st.mu.length→(st.mu++l)[i]?=st.mu[i]?:=fun l i hi=>List.getElem?_append_left hi
  obtain ⟨rr,hrr⟩:=three m0 m1 m2
  simp [go_sem,e1,e3,e5,e6,e7,e9,h8,cNd_ones,m0]
  refine CallStep.lend (args':=[eTS c.ts,eNd n,lRS L]) hp ⟨.hf _ (hf_eTS _),.hf _ (hf_eNd n),rdRS ho,trivial⟩ (fl_sb S' b) ?_
  have hrl:st.mu.length=rr.length+3:=by rw [hrr];rfl
  clear m0 m1 m2 hpush ho
  simp [go_sem,e1,e3,e5,e6,e7,e9,h8,cNd_ones,hrr,hB_len,QE.tk,pc]
  rw [if_pos (hB_one _)]
  generalize hP:putCells _ 0 (cRS S')=P
  have hP2:P=cRS S':=by rw [←hP];exact pc (aI 0) _ (fun _=>false) _
  subst hP2
  clear hP
  cases b with
  |true =>
   obtain ⟨rfl,rfl⟩:=q2 rfl
   simp [go_sem,e1,e3,e5,e6,e7,e9,h8,hrr,hB_len,QE.tk,pc]
   rw [if_pos (hB_one _)]
   simp [go_sem,e1,e3,e5,e6,e7,e9,h8,hrr,hB_len,QE.tk,pc]
   exact .hf _ (hf_end S (0,0))
  |false =>
   obtain ⟨rfl,rfl⟩:=q3 rfl
   simp [go_sem,e1,e3,e5,e6,e7,e9,h8,hrr,hB_len,QE.tk,pc]
   refine DrawGo.seg [0,1,2,3,4,5] [(0,0,[]),(1,0,[]),(2,0,[]),(3,0,[]),(4,1,[2]),(5,1,[])] (by kernel_rfl) (by kernel_rfl) (by simp [go_sem]) ?_
   simp [go_sem,e1,e3,e5,e6,e7,e9,h8,hrr,hB_len,QE.tk,pc]
   exact .hf _ (hf_end zR (42,n.pos))
theorem ex_tT0 (c:Ck) (hc:okCk c) (s:Scp) (n:Nd) (B:Bool) (X:Nd→Res) (S:RS) (D:Dg) (h1:¬n.op=1) (h47:¬n.op=47) (hb:¬(n.op=15∨n.op=45∨n.op=46)) (hw:WfN n) (hkl:n.kids.length≤401) (hT:timeOp n.op=false) (h12:¬n.op=12) (h13:¬n.op=13) (hBt:B=true)
  (hX1:∀ k,k∈n.kids→∃ S,SoundP Tryz.prog 46 [eVw c B,lVr (envS s),eNd k] (.tup [eRS S,eDg (dgOf (X k))])∧(kd k.op=101→∀ q,X k = .ok (some q)→S=setOf q))
  (hXok:∀ k a,k∈n.kids→X k = .ok a→kd k.op=101→∃ q,a=some q∧okKd c.ts.sorts.length q)
  (hXerr:∀ k e,X k = .error e→40≤e.1)
  (hfe:∀ e,seqL X n.kids = .error e→S=zR∧D=e)
  (hfo:∀ l,seqL X n.kids = .ok l→∃ S' b,(∀ L:List RS,((n.op=5∨n.op=11∨n.op=12∨n.op=13)∨(n.op=6∨n.op=14∨n.op=7∨n.op=8∨n.op=32∨n.op=33∨n.op=9∨n.op=10)→L=l.map setO)→prC c.ts n L S' b)∧(b=true→S=S'∧D=(0,0))∧(b=false→S=zR∧D=(42,n.pos))) :
  SoundP Tryz.prog 46 [eVw c true,lVr (envS s),eNd n] (.tup [eRS S,eDg D]):=by
 simp only [not_or] at hb
 obtain ⟨b1,b2,b3⟩:=hb
 refine SoundP.of_sound (Sound.of_awp Tryz.call46 Tryz.func46 rfl (Nat.le_of_ble_eq_true (by kernel_rfl)) (by kernel_rfl) (pl:={ mt:=[3] }) ?_)
 have ct:=timedU n.op
 have cp:=temporalPredU c hc n.name
 rw [hT] at ct
 simp [go_sem]
 refine CallStep.pure ct (wk1I _) ?_
 simp [go_sem,h1,h47,b1,b2,b3]
 simp [go_sem,h12,h13]
 refine LoopGo.upK n.kids.length (fun k st=>∃(acc:List (Option Kd)) (L:List RS),acc.length=k∧L.length=k∧st.tm 1=lVr (envS s)∧st.tm 3 = .ptr 0 0∧st.tm 5 = .ip (cNd n)∧st.tm 6 = .ptr 1 0∧st.tm 7 = .ptr 2 0∧st.tm 9=aI k∧st.mu[0]?=some (.arr (cVw c B))∧st.mu[1]?=some (.arr (aI 0 :: hB fun _=>false))∧st.mu[2]?=some (.arr [aI 0,aI 0])∧OwnF 3 st.mu 65 (st.tm 8) (L.map cRS)∧(∀(i:Nat) x,n.kids[i]?=some x→i<k→kd x.op=101→∃ q,acc[i]?=some (some q)∧L[i]?=some (setOf q))∧seqL X n.kids=(match seqL X (n.kids.drop k) with | .error e => .error e | .ok l => .ok (acc++l))) ?_ ?_
 ·refine ⟨[],[],rfl,rfl,by simp [go_sem],by simp [go_sem],by simp [go_sem],by simp [go_sem],by simp [go_sem],by simp [go_sem],by rw [hBt];simp [go_sem],by simp [go_sem];rfl,by simp [go_sem],by simp [go_sem];exact OwnF.nil (by simp),fun i x _ h=>absurd h (by omega),?_⟩
  simp only [List.drop_zero,List.nil_append]
  cases seqL X n.kids<;>rfl
 rintro k st hk ⟨acc,L,hal,hll,e1,e3,e5,e6,e7,e9,m0,m1,m2,ho,hrel,hE⟩
 generalize h8:st.tm 8=av at *
 by_cases hlt:k<n.kids.length
 ·have w1:IntKind.i64.wrap ((k:Int)+1)=(k:Int)+1:=wrap_i64 (by omega) (by omega)
  obtain ⟨Sk,ck,hk1⟩:=hX1 n.kids[k] (List.getElem_mem hlt)
  rw [List.drop_eq_getElem_cons hlt] at hE
  simp only [seqL] at hE
  simp [go_sem,e1,e3,e5,e6,e7,e9,h8,hlt,cNd_ones]
  refine DrawGo.seg [0,1,2,3,4,5,6,7,8,9,10,11,12,13,14] [(0,0,[]),(1,0,[]),(2,0,[]),(3,0,[]),(4,0,[]),(5,0,[]),(6,0,[]),(7,1,[]),(8,0,[]),(9,0,[]),(10,0,[]),(11,2,[0,3,6]),(12,2,[0,3,6]),(13,1,[]),(14,1,[])] (by kernel_rfl) (by kernel_rfl) (by simp [go_sem]) ?_
  have hml:2<st.mu.length:=(List.getElem?_eq_some_iff.1 m2).1
  have hpush:∀(l:List Cell) (i:Nat),i<st.mu.length→(st.mu++l)[i]?=st.mu[i]?:=fun l i hi=>List.getElem?_append_left hi
  have p0:=fun l=>(hpush l 0 (by omega)).trans m0
  have p1:=fun l=>(hpush l 1 (by omega)).trans m1
  have p2:=fun l=>(hpush l 2 (by omega)).trans m2
  have g0:=(List.getElem?_eq_some_iff.1 m0).2
  have g1:=(List.getElem?_eq_some_iff.1 m1).2
  have g2:=(List.getElem?_eq_some_iff.1 m2).2
  have hl0:0<st.mu.length:=by omega
  have hl1:1<st.mu.length:=by omega
  simp [go_sem,e1,e3,e5,e6,e7,e9,h8,hlt,cNd_ones,m0]
  refine CallStep.pure ck (wkE c _ _ _) ?_
  cases hx:X n.kids[k] with
  |error e =>
   have he:=hXerr _ _ hx
   have he0:¬e.1=0:=by omega
   rw [hx] at hE
   have hE:seqL X n.kids = .error e:=hE
   obtain ⟨hS0,hD0⟩:=hfe e hE
   rw [hS0,hD0]
   simp [go_sem,e1,e3,e5,e6,e7,e9,h8,hlt,cNd_ones,m0,g0,p0,hl0,hB_len,QE.tk,pc,he0,dgOf]
   rw [if_pos (hB_one _)]
   generalize hP:putCells _ 0 (cRS Sk)=P
   have hP2:P=cRS Sk:=by rw [←hP];exact pc (aI 0) _ (fun _=>false) _
   subst hP2
   clear hP
   simp [go_sem,e1,e3,e5,e6,e7,e9,h8,hlt,cNd_ones,m0,g0,p0,hl0,hB_len,QE.tk,pc,he0,dgOf]
   refine DrawGo.seg [0,1,2,3] [(0,0,[]),(1,0,[]),(2,1,[1]),(3,1,[])] (by kernel_rfl) (by kernel_rfl) (by simp [go_sem]) ?_
   simp [go_sem,e1,e3,e5,e6,e7,e9,h8,hlt,cNd_ones,m0,g0,p0,hl0,hB_len,QE.tk,pc,he0,dgOf,p1,p2,g1,g2,hl1,hml]
   exact .hf _ (hf_end zR e)
  |ok a =>
   rw [hx] at hE
   simp only at hE
   simp [go_sem,e1,e3,e5,e6,e7,e9,h8,hlt,cNd_ones,m0,g0,p0,hl0,hB_len,QE.tk,pc,dgOf]
   rw [if_pos (hB_one _)]
   generalize hP:putCells _ 0 (cRS Sk)=P
   have hP2:P=cRS Sk:=by rw [←hP];exact pc (aI 0) _ (fun _=>false) _
   subst hP2
   clear hP
   simp [go_sem,e1,e3,e5,e6,e7,e9,h8,hlt,cNd_ones,m0,g0,p0,hl0,hB_len,QE.tk,pc,dgOf]
   rw [if_pos (hB_one _)]
   simp [go_sem,e1,e3,e5,e6,e7,e9,h8,hlt]
   refine appRS (lo:=3) (xs:=L) (ys:=[Sk]) ⟨by simpa using own_push (own_push ho.1 _) _,ho.2.1,by have:=ho.2.2;simp;omega⟩ (by simp [rowsOf]) (by simp;omega) fun av' m' ho' hm'=>?_
   simp [go_sem,e1,e3,e5,e6,e7,e9,h8,hlt,w1]
   refine Keep.mk' ⟨acc++[a],L++[Sk],by simp [hal],by simp [hll],by simp [go_sem,e1],by simp [go_sem,e3],by simp [go_sem,e5],by simp [go_sem,e6],by simp [go_sem,e7],by simp [go_sem],?_,?_,?_,by simpa [go_sem] using ho',fun i x hi hik hkd=>?_,?_⟩
   ·simp only [put_mu];exact (hm' 0 (by omega)).trans (p0 _)
   ·simp only [put_mu];exact (hm' 1 (by omega)).trans (p1 _)
   ·simp only [put_mu];exact (hm' 2 (by omega)).trans (p2 _)
   ·by_cases hik2:i=k
    ·subst hik2
     rw [List.getElem?_eq_getElem hlt] at hi
     cases hi
     obtain ⟨q,rfl,_⟩:=hXok _ a (List.getElem_mem hlt) hx hkd
     refine ⟨q,?_,?_⟩
     ·rw [List.getElem?_append_right (by omega),hal];simp
     ·rw [List.getElem?_append_right (by omega),hll];simp [hk1 hkd q hx]
    ·obtain ⟨q,q1,q2⟩:=hrel i x hi (by omega) hkd
     exact ⟨q,by rw [List.getElem?_append_left (by omega)];exact q1,by rw [List.getElem?_append_left (by omega)];exact q2⟩
   ·rw [hE]
    cases seqL X (n.kids.drop (k+1)) with
    |error e=>rfl
    |ok l=>simp
 ·have hkl':k=n.kids.length:=by omega
  subst hkl'
  rw [List.drop_length] at hE
  have hE:seqL X n.kids = .ok acc:=by rw [hE];simp only [seqL,List.append_nil]
  obtain ⟨S',b,q1,q2,q3⟩:=hfo acc hE
  have hL:((n.op=5∨n.op=11∨n.op=12∨n.op=13)∨(n.op=6∨n.op=14∨n.op=7∨n.op=8∨n.op=32∨n.op=33∨n.op=9∨n.op=10))→L=acc.map setO:=fun h=>by
   have hkd:∀ x,x∈n.kids→kd x.op=101:=fun x hx=>kids_rel hw h x hx
   refine List.ext_getElem? fun i=>?_
   by_cases hi:i<n.kids.length
   ·obtain ⟨q,e1,e2⟩:=hrel i n.kids[i] (by simp [hi]) hi (hkd _ (List.getElem_mem hi))
    rw [e2,List.getElem?_map,e1];rfl
   ·rw [List.getElem?_eq_none (by omega),List.getElem?_eq_none (by simp;omega)]
  have hp:=q1 L hL
  unfold prC at hp
  have hml:2<st.mu.length:=(List.getElem?_eq_some_iff.1 m2).1
  have hpush:∀(l:List Cell) (i:Nat),i<st.mu.length→(st.mu++l)[i]?=st.mu[i]?:=fun l i hi=>List.getElem?_append_left hi
  obtain ⟨rr,hrr⟩:=three m0 m1 m2
  simp [go_sem,e1,e3,e5,e6,e7,e9,h8,cNd_ones,m0]
  refine CallStep.lend (args':=[eTS c.ts,eNd n,lRS L]) hp ⟨.hf _ (hf_eTS _),.hf _ (hf_eNd n),rdRS ho,trivial⟩ (fl_sb S' b) ?_
  have hrl:st.mu.length=rr.length+3:=by rw [hrr];rfl
  clear m0 m1 m2 hpush ho
  simp [go_sem,e1,e3,e5,e6,e7,e9,h8,cNd_ones,hrr,hB_len,QE.tk,pc]
  rw [if_pos (hB_one _)]
  generalize hP:putCells _ 0 (cRS S')=P
  have hP2:P=cRS S':=by rw [←hP];exact pc (aI 0) _ (fun _=>false) _
  subst hP2
  clear hP
  cases b with
  |true =>
   obtain ⟨rfl,rfl⟩:=q2 rfl
   simp [go_sem,e1,e3,e5,e6,e7,e9,h8,hrr,hB_len,QE.tk,pc]
   rw [if_pos (hB_one _)]
   simp [go_sem,e1,e3,e5,e6,e7,e9,h8,hrr,hB_len,QE.tk,pc]
   exact .hf _ (hf_end S (0,0))
  |false =>
   obtain ⟨rfl,rfl⟩:=q3 rfl
   simp [go_sem,e1,e3,e5,e6,e7,e9,h8,hrr,hB_len,QE.tk,pc]
   refine DrawGo.seg [0,1,2,3,4,5] [(0,0,[]),(1,0,[]),(2,0,[]),(3,0,[]),(4,1,[2]),(5,1,[])] (by kernel_rfl) (by kernel_rfl) (by simp [go_sem]) ?_
   simp [go_sem,e1,e3,e5,e6,e7,e9,h8,hrr,hB_len,QE.tk,pc]
   exact .hf _ (hf_end zR (42,n.pos))
theorem ex_tF12 (c:Ck) (hc:okCk c) (s:Scp) (n:Nd) (B:Bool) (X:Nd→Res) (S:RS) (D:Dg) (h1:¬n.op=1) (h47:¬n.op=47) (hb:¬(n.op=15∨n.op=45∨n.op=46)) (hw:WfN n) (hkl:n.kids.length≤401) (hT:True) (h12:n.op=12) (h13:¬n.op=13) (hBt:B=true)
  (hX1:∀ k,k∈n.kids→∃ S,SoundP Tryz.prog 46 [eVw c B,lVr (envS s),eNd k] (.tup [eRS S,eDg (dgOf (X k))])∧(kd k.op=101→∀ q,X k = .ok (some q)→S=setOf q))
  (hXok:∀ k a,k∈n.kids→X k = .ok a→kd k.op=101→∃ q,a=some q∧okKd c.ts.sorts.length q)
  (hXerr:∀ k e,X k = .error e→40≤e.1)
  (hfe:∀ e,seqL X n.kids = .error e→S=zR∧D=e)
  (hfo:∀ l,seqL X n.kids = .ok l→∃ S' b,(∀ L:List RS,((n.op=5∨n.op=11∨n.op=12∨n.op=13)∨(n.op=6∨n.op=14∨n.op=7∨n.op=8∨n.op=32∨n.op=33∨n.op=9∨n.op=10)→L=l.map setO)→prC c.ts n L S' b)∧(b=true→S=S'∧D=(0,0))∧(b=false→S=zR∧D=(42,n.pos))) :
  SoundP Tryz.prog 46 [eVw c false,lVr (envS s),eNd n] (.tup [eRS S,eDg D]):=by
 simp only [not_or] at hb
 obtain ⟨b1,b2,b3⟩:=hb
 refine SoundP.of_sound (Sound.of_awp Tryz.call46 Tryz.func46 rfl (Nat.le_of_ble_eq_true (by kernel_rfl)) (by kernel_rfl) (pl:={ mt:=[3] }) ?_)
 have ct:=timedU n.op
 have cp:=temporalPredU c hc n.name
 simp [go_sem,h1,h47,b1,b2,b3]
 simp [go_sem,h12]
 refine LoopGo.upK n.kids.length (fun k st=>∃(acc:List (Option Kd)) (L:List RS),acc.length=k∧L.length=k∧st.tm 1=lVr (envS s)∧st.tm 3 = .ptr 0 0∧st.tm 5 = .ip (cNd n)∧st.tm 6 = .ptr 1 0∧st.tm 7 = .ptr 2 0∧st.tm 9=aI k∧st.mu[0]?=some (.arr (cVw c B))∧st.mu[1]?=some (.arr (aI 0 :: hB fun _=>false))∧st.mu[2]?=some (.arr [aI 0,aI 0])∧OwnF 3 st.mu 65 (st.tm 8) (L.map cRS)∧(∀(i:Nat) x,n.kids[i]?=some x→i<k→kd x.op=101→∃ q,acc[i]?=some (some q)∧L[i]?=some (setOf q))∧seqL X n.kids=(match seqL X (n.kids.drop k) with | .error e => .error e | .ok l => .ok (acc++l))) ?_ ?_
 ·refine ⟨[],[],rfl,rfl,by simp [go_sem],by simp [go_sem],by simp [go_sem],by simp [go_sem],by simp [go_sem],by simp [go_sem],by rw [hBt];simp [go_sem],by simp [go_sem];rfl,by simp [go_sem],by simp [go_sem];exact OwnF.nil (by simp),fun i x _ h=>absurd h (by omega),?_⟩
  simp only [List.drop_zero,List.nil_append]
  cases seqL X n.kids<;>rfl
 rintro k st hk ⟨acc,L,hal,hll,e1,e3,e5,e6,e7,e9,m0,m1,m2,ho,hrel,hE⟩
 generalize h8:st.tm 8=av at *
 by_cases hlt:k<n.kids.length
 ·have w1:IntKind.i64.wrap ((k:Int)+1)=(k:Int)+1:=wrap_i64 (by omega) (by omega)
  obtain ⟨Sk,ck,hk1⟩:=hX1 n.kids[k] (List.getElem_mem hlt)
  rw [List.drop_eq_getElem_cons hlt] at hE
  simp only [seqL] at hE
  simp [go_sem,e1,e3,e5,e6,e7,e9,h8,hlt,cNd_ones]
  refine DrawGo.seg [0,1,2,3,4,5,6,7,8,9,10,11,12,13,14] [(0,0,[]),(1,0,[]),(2,0,[]),(3,0,[]),(4,0,[]),(5,0,[]),(6,0,[]),(7,1,[]),(8,0,[]),(9,0,[]),(10,0,[]),(11,2,[0,3,6]),(12,2,[0,3,6]),(13,1,[]),(14,1,[])] (by kernel_rfl) (by kernel_rfl) (by simp [go_sem]) ?_
  have hml:2<st.mu.length:=(List.getElem?_eq_some_iff.1 m2).1
  have hpush:∀(l:List Cell) (i:Nat),i<st.mu.length→(st.mu++l)[i]?=st.mu[i]?:=fun l i hi=>List.getElem?_append_left hi
  have p0:=fun l=>(hpush l 0 (by omega)).trans m0
  have p1:=fun l=>(hpush l 1 (by omega)).trans m1
  have p2:=fun l=>(hpush l 2 (by omega)).trans m2
  have g0:=(List.getElem?_eq_some_iff.1 m0).2
  have g1:=(List.getElem?_eq_some_iff.1 m1).2
  have g2:=(List.getElem?_eq_some_iff.1 m2).2
  have hl0:0<st.mu.length:=by omega
  have hl1:1<st.mu.length:=by omega
  simp [go_sem,e1,e3,e5,e6,e7,e9,h8,hlt,cNd_ones,m0]
  refine CallStep.pure ck (wkE c _ _ _) ?_
  cases hx:X n.kids[k] with
  |error e =>
   have he:=hXerr _ _ hx
   have he0:¬e.1=0:=by omega
   rw [hx] at hE
   have hE:seqL X n.kids = .error e:=hE
   obtain ⟨hS0,hD0⟩:=hfe e hE
   rw [hS0,hD0]
   simp [go_sem,e1,e3,e5,e6,e7,e9,h8,hlt,cNd_ones,m0,g0,p0,hl0,hB_len,QE.tk,pc,he0,dgOf]
   rw [if_pos (hB_one _)]
   generalize hP:putCells _ 0 (cRS Sk)=P
   have hP2:P=cRS Sk:=by rw [←hP];exact pc (aI 0) _ (fun _=>false) _
   subst hP2
   clear hP
   simp [go_sem,e1,e3,e5,e6,e7,e9,h8,hlt,cNd_ones,m0,g0,p0,hl0,hB_len,QE.tk,pc,he0,dgOf]
   refine DrawGo.seg [0,1,2,3] [(0,0,[]),(1,0,[]),(2,1,[1]),(3,1,[])] (by kernel_rfl) (by kernel_rfl) (by simp [go_sem]) ?_
   simp [go_sem,e1,e3,e5,e6,e7,e9,h8,hlt,cNd_ones,m0,g0,p0,hl0,hB_len,QE.tk,pc,he0,dgOf,p1,p2,g1,g2,hl1,hml]
   exact .hf _ (hf_end zR e)
  |ok a =>
   rw [hx] at hE
   simp only at hE
   simp [go_sem,e1,e3,e5,e6,e7,e9,h8,hlt,cNd_ones,m0,g0,p0,hl0,hB_len,QE.tk,pc,dgOf]
   rw [if_pos (hB_one _)]
   generalize hP:putCells _ 0 (cRS Sk)=P
   have hP2:P=cRS Sk:=by rw [←hP];exact pc (aI 0) _ (fun _=>false) _
   subst hP2
   clear hP
   simp [go_sem,e1,e3,e5,e6,e7,e9,h8,hlt,cNd_ones,m0,g0,p0,hl0,hB_len,QE.tk,pc,dgOf]
   rw [if_pos (hB_one _)]
   simp [go_sem,e1,e3,e5,e6,e7,e9,h8,hlt]
   refine appRS (lo:=3) (xs:=L) (ys:=[Sk]) ⟨by simpa using own_push (own_push ho.1 _) _,ho.2.1,by have:=ho.2.2;simp;omega⟩ (by simp [rowsOf]) (by simp;omega) fun av' m' ho' hm'=>?_
   simp [go_sem,e1,e3,e5,e6,e7,e9,h8,hlt,w1]
   refine Keep.mk' ⟨acc++[a],L++[Sk],by simp [hal],by simp [hll],by simp [go_sem,e1],by simp [go_sem,e3],by simp [go_sem,e5],by simp [go_sem,e6],by simp [go_sem,e7],by simp [go_sem],?_,?_,?_,by simpa [go_sem] using ho',fun i x hi hik hkd=>?_,?_⟩
   ·simp only [put_mu];exact (hm' 0 (by omega)).trans (p0 _)
   ·simp only [put_mu];exact (hm' 1 (by omega)).trans (p1 _)
   ·simp only [put_mu];exact (hm' 2 (by omega)).trans (p2 _)
   ·by_cases hik2:i=k
    ·subst hik2
     rw [List.getElem?_eq_getElem hlt] at hi
     cases hi
     obtain ⟨q,rfl,_⟩:=hXok _ a (List.getElem_mem hlt) hx hkd
     refine ⟨q,?_,?_⟩
     ·rw [List.getElem?_append_right (by omega),hal];simp
     ·rw [List.getElem?_append_right (by omega),hll];simp [hk1 hkd q hx]
    ·obtain ⟨q,q1,q2⟩:=hrel i x hi (by omega) hkd
     exact ⟨q,by rw [List.getElem?_append_left (by omega)];exact q1,by rw [List.getElem?_append_left (by omega)];exact q2⟩
   ·rw [hE]
    cases seqL X (n.kids.drop (k+1)) with
    |error e=>rfl
    |ok l=>simp
 ·have hkl':k=n.kids.length:=by omega
  subst hkl'
  rw [List.drop_length] at hE
  have hE:seqL X n.kids = .ok acc:=by rw [hE];simp only [seqL,List.append_nil]
  obtain ⟨S',b,q1,q2,q3⟩:=hfo acc hE
  have hL:((n.op=5∨n.op=11∨n.op=12∨n.op=13)∨(n.op=6∨n.op=14∨n.op=7∨n.op=8∨n.op=32∨n.op=33∨n.op=9∨n.op=10))→L=acc.map setO:=fun h=>by
   have hkd:∀ x,x∈n.kids→kd x.op=101:=fun x hx=>kids_rel hw h x hx
   refine List.ext_getElem? fun i=>?_
   by_cases hi:i<n.kids.length
   ·obtain ⟨q,e1,e2⟩:=hrel i n.kids[i] (by simp [hi]) hi (hkd _ (List.getElem_mem hi))
    rw [e2,List.getElem?_map,e1];rfl
   ·rw [List.getElem?_eq_none (by omega),List.getElem?_eq_none (by simp;omega)]
  have hp:=q1 L hL
  unfold prC at hp
  have hml:2<st.mu.length:=(List.getElem?_eq_some_iff.1 m2).1
  have hpush:∀(l:List Cell) (i:Nat),i<st.mu.length→(st.mu++l)[i]?=st.mu[i]?:=fun l i hi=>List.getElem?_append_left hi
  obtain ⟨rr,hrr⟩:=three m0 m1 m2
  simp [go_sem,e1,e3,e5,e6,e7,e9,h8,cNd_ones,m0]
  refine CallStep.lend (args':=[eTS c.ts,eNd n,lRS L]) hp ⟨.hf _ (hf_eTS _),.hf _ (hf_eNd n),rdRS ho,trivial⟩ (fl_sb S' b) ?_
  have hrl:st.mu.length=rr.length+3:=by rw [hrr];rfl
  clear m0 m1 m2 hpush ho
  simp [go_sem,e1,e3,e5,e6,e7,e9,h8,cNd_ones,hrr,hB_len,QE.tk,pc]
  rw [if_pos (hB_one _)]
  generalize hP:putCells _ 0 (cRS S')=P
  have hP2:P=cRS S':=by rw [←hP];exact pc (aI 0) _ (fun _=>false) _
  subst hP2
  clear hP
  cases b with
  |true =>
   obtain ⟨rfl,rfl⟩:=q2 rfl
   simp [go_sem,e1,e3,e5,e6,e7,e9,h8,hrr,hB_len,QE.tk,pc]
   rw [if_pos (hB_one _)]
   simp [go_sem,e1,e3,e5,e6,e7,e9,h8,hrr,hB_len,QE.tk,pc]
   exact .hf _ (hf_end S (0,0))
  |false =>
   obtain ⟨rfl,rfl⟩:=q3 rfl
   simp [go_sem,e1,e3,e5,e6,e7,e9,h8,hrr,hB_len,QE.tk,pc]
   refine DrawGo.seg [0,1,2,3,4,5] [(0,0,[]),(1,0,[]),(2,0,[]),(3,0,[]),(4,1,[2]),(5,1,[])] (by kernel_rfl) (by kernel_rfl) (by simp [go_sem]) ?_
   simp [go_sem,e1,e3,e5,e6,e7,e9,h8,hrr,hB_len,QE.tk,pc]
   exact .hf _ (hf_end zR (42,n.pos))
theorem ex_tF13 (c:Ck) (hc:okCk c) (s:Scp) (n:Nd) (B:Bool) (X:Nd→Res) (S:RS) (D:Dg) (h1:¬n.op=1) (h47:¬n.op=47) (hb:¬(n.op=15∨n.op=45∨n.op=46)) (hw:WfN n) (hkl:n.kids.length≤401) (hT:True) (h12:¬n.op=12) (h13:n.op=13) (hBt:B=true)
  (hX1:∀ k,k∈n.kids→∃ S,SoundP Tryz.prog 46 [eVw c B,lVr (envS s),eNd k] (.tup [eRS S,eDg (dgOf (X k))])∧(kd k.op=101→∀ q,X k = .ok (some q)→S=setOf q))
  (hXok:∀ k a,k∈n.kids→X k = .ok a→kd k.op=101→∃ q,a=some q∧okKd c.ts.sorts.length q)
  (hXerr:∀ k e,X k = .error e→40≤e.1)
  (hfe:∀ e,seqL X n.kids = .error e→S=zR∧D=e)
  (hfo:∀ l,seqL X n.kids = .ok l→∃ S' b,(∀ L:List RS,((n.op=5∨n.op=11∨n.op=12∨n.op=13)∨(n.op=6∨n.op=14∨n.op=7∨n.op=8∨n.op=32∨n.op=33∨n.op=9∨n.op=10)→L=l.map setO)→prC c.ts n L S' b)∧(b=true→S=S'∧D=(0,0))∧(b=false→S=zR∧D=(42,n.pos))) :
  SoundP Tryz.prog 46 [eVw c false,lVr (envS s),eNd n] (.tup [eRS S,eDg D]):=by
 simp only [not_or] at hb
 obtain ⟨b1,b2,b3⟩:=hb
 refine SoundP.of_sound (Sound.of_awp Tryz.call46 Tryz.func46 rfl (Nat.le_of_ble_eq_true (by kernel_rfl)) (by kernel_rfl) (pl:={ mt:=[3] }) ?_)
 have ct:=timedU n.op
 have cp:=temporalPredU c hc n.name
 simp [go_sem,h1,h47,b1,b2,b3]
 simp [go_sem,h12,h13]
 refine LoopGo.upK n.kids.length (fun k st=>∃(acc:List (Option Kd)) (L:List RS),acc.length=k∧L.length=k∧st.tm 1=lVr (envS s)∧st.tm 3 = .ptr 0 0∧st.tm 5 = .ip (cNd n)∧st.tm 6 = .ptr 1 0∧st.tm 7 = .ptr 2 0∧st.tm 9=aI k∧st.mu[0]?=some (.arr (cVw c B))∧st.mu[1]?=some (.arr (aI 0 :: hB fun _=>false))∧st.mu[2]?=some (.arr [aI 0,aI 0])∧OwnF 3 st.mu 65 (st.tm 8) (L.map cRS)∧(∀(i:Nat) x,n.kids[i]?=some x→i<k→kd x.op=101→∃ q,acc[i]?=some (some q)∧L[i]?=some (setOf q))∧seqL X n.kids=(match seqL X (n.kids.drop k) with | .error e => .error e | .ok l => .ok (acc++l))) ?_ ?_
 ·refine ⟨[],[],rfl,rfl,by simp [go_sem],by simp [go_sem],by simp [go_sem],by simp [go_sem],by simp [go_sem],by simp [go_sem],by rw [hBt];simp [go_sem],by simp [go_sem];rfl,by simp [go_sem],by simp [go_sem];exact OwnF.nil (by simp),fun i x _ h=>absurd h (by omega),?_⟩
  simp only [List.drop_zero,List.nil_append]
  cases seqL X n.kids<;>rfl
 rintro k st hk ⟨acc,L,hal,hll,e1,e3,e5,e6,e7,e9,m0,m1,m2,ho,hrel,hE⟩
 generalize h8:st.tm 8=av at *
 by_cases hlt:k<n.kids.length
 ·have w1:IntKind.i64.wrap ((k:Int)+1)=(k:Int)+1:=wrap_i64 (by omega) (by omega)
  obtain ⟨Sk,ck,hk1⟩:=hX1 n.kids[k] (List.getElem_mem hlt)
  rw [List.drop_eq_getElem_cons hlt] at hE
  simp only [seqL] at hE
  simp [go_sem,e1,e3,e5,e6,e7,e9,h8,hlt,cNd_ones]
  refine DrawGo.seg [0,1,2,3,4,5,6,7,8,9,10,11,12,13,14] [(0,0,[]),(1,0,[]),(2,0,[]),(3,0,[]),(4,0,[]),(5,0,[]),(6,0,[]),(7,1,[]),(8,0,[]),(9,0,[]),(10,0,[]),(11,2,[0,3,6]),(12,2,[0,3,6]),(13,1,[]),(14,1,[])] (by kernel_rfl) (by kernel_rfl) (by simp [go_sem]) ?_
  have hml:2<st.mu.length:=(List.getElem?_eq_some_iff.1 m2).1
  have hpush:∀(l:List Cell) (i:Nat),i<st.mu.length→(st.mu++l)[i]?=st.mu[i]?:=fun l i hi=>List.getElem?_append_left hi
  have p0:=fun l=>(hpush l 0 (by omega)).trans m0
  have p1:=fun l=>(hpush l 1 (by omega)).trans m1
  have p2:=fun l=>(hpush l 2 (by omega)).trans m2
  have g0:=(List.getElem?_eq_some_iff.1 m0).2
  have g1:=(List.getElem?_eq_some_iff.1 m1).2
  have g2:=(List.getElem?_eq_some_iff.1 m2).2
  have hl0:0<st.mu.length:=by omega
  have hl1:1<st.mu.length:=by omega
  simp [go_sem,e1,e3,e5,e6,e7,e9,h8,hlt,cNd_ones,m0]
  refine CallStep.pure ck (wkE c _ _ _) ?_
  cases hx:X n.kids[k] with
  |error e =>
   have he:=hXerr _ _ hx
   have he0:¬e.1=0:=by omega
   rw [hx] at hE
   have hE:seqL X n.kids = .error e:=hE
   obtain ⟨hS0,hD0⟩:=hfe e hE
   rw [hS0,hD0]
   simp [go_sem,e1,e3,e5,e6,e7,e9,h8,hlt,cNd_ones,m0,g0,p0,hl0,hB_len,QE.tk,pc,he0,dgOf]
   rw [if_pos (hB_one _)]
   generalize hP:putCells _ 0 (cRS Sk)=P
   have hP2:P=cRS Sk:=by rw [←hP];exact pc (aI 0) _ (fun _=>false) _
   subst hP2
   clear hP
   simp [go_sem,e1,e3,e5,e6,e7,e9,h8,hlt,cNd_ones,m0,g0,p0,hl0,hB_len,QE.tk,pc,he0,dgOf]
   refine DrawGo.seg [0,1,2,3] [(0,0,[]),(1,0,[]),(2,1,[1]),(3,1,[])] (by kernel_rfl) (by kernel_rfl) (by simp [go_sem]) ?_
   simp [go_sem,e1,e3,e5,e6,e7,e9,h8,hlt,cNd_ones,m0,g0,p0,hl0,hB_len,QE.tk,pc,he0,dgOf,p1,p2,g1,g2,hl1,hml]
   exact .hf _ (hf_end zR e)
  |ok a =>
   rw [hx] at hE
   simp only at hE
   simp [go_sem,e1,e3,e5,e6,e7,e9,h8,hlt,cNd_ones,m0,g0,p0,hl0,hB_len,QE.tk,pc,dgOf]
   rw [if_pos (hB_one _)]
   generalize hP:putCells _ 0 (cRS Sk)=P
   have hP2:P=cRS Sk:=by rw [←hP];exact pc (aI 0) _ (fun _=>false) _
   subst hP2
   clear hP
   simp [go_sem,e1,e3,e5,e6,e7,e9,h8,hlt,cNd_ones,m0,g0,p0,hl0,hB_len,QE.tk,pc,dgOf]
   rw [if_pos (hB_one _)]
   simp [go_sem,e1,e3,e5,e6,e7,e9,h8,hlt]
   refine appRS (lo:=3) (xs:=L) (ys:=[Sk]) ⟨by simpa using own_push (own_push ho.1 _) _,ho.2.1,by have:=ho.2.2;simp;omega⟩ (by simp [rowsOf]) (by simp;omega) fun av' m' ho' hm'=>?_
   simp [go_sem,e1,e3,e5,e6,e7,e9,h8,hlt,w1]
   refine Keep.mk' ⟨acc++[a],L++[Sk],by simp [hal],by simp [hll],by simp [go_sem,e1],by simp [go_sem,e3],by simp [go_sem,e5],by simp [go_sem,e6],by simp [go_sem,e7],by simp [go_sem],?_,?_,?_,by simpa [go_sem] using ho',fun i x hi hik hkd=>?_,?_⟩
   ·simp only [put_mu];exact (hm' 0 (by omega)).trans (p0 _)
   ·simp only [put_mu];exact (hm' 1 (by omega)).trans (p1 _)
   ·simp only [put_mu];exact (hm' 2 (by omega)).trans (p2 _)
   ·by_cases hik2:i=k
    ·subst hik2
     rw [List.getElem?_eq_getElem hlt] at hi
     cases hi
     obtain ⟨q,rfl,_⟩:=hXok _ a (List.getElem_mem hlt) hx hkd
     refine ⟨q,?_,?_⟩
     ·rw [List.getElem?_append_right (by omega),hal];simp
     ·rw [List.getElem?_append_right (by omega),hll];simp [hk1 hkd q hx]
    ·obtain ⟨q,q1,q2⟩:=hrel i x hi (by omega) hkd
     exact ⟨q,by rw [List.getElem?_append_left (by omega)];exact q1,by rw [List.getElem?_append_left (by omega)];exact q2⟩
   ·rw [hE]
    cases seqL X (n.kids.drop (k+1)) with
    |error e=>rfl
    |ok l=>simp
 ·have hkl':k=n.kids.length:=by omega
  subst hkl'
  rw [List.drop_length] at hE
  have hE:seqL X n.kids = .ok acc:=by rw [hE];simp only [seqL,List.append_nil]
  obtain ⟨S',b,q1,q2,q3⟩:=hfo acc hE
  have hL:((n.op=5∨n.op=11∨n.op=12∨n.op=13)∨(n.op=6∨n.op=14∨n.op=7∨n.op=8∨n.op=32∨n.op=33∨n.op=9∨n.op=10))→L=acc.map setO:=fun h=>by
   have hkd:∀ x,x∈n.kids→kd x.op=101:=fun x hx=>kids_rel hw h x hx
   refine List.ext_getElem? fun i=>?_
   by_cases hi:i<n.kids.length
   ·obtain ⟨q,e1,e2⟩:=hrel i n.kids[i] (by simp [hi]) hi (hkd _ (List.getElem_mem hi))
    rw [e2,List.getElem?_map,e1];rfl
   ·rw [List.getElem?_eq_none (by omega),List.getElem?_eq_none (by simp;omega)]
  have hp:=q1 L hL
  unfold prC at hp
  have hml:2<st.mu.length:=(List.getElem?_eq_some_iff.1 m2).1
  have hpush:∀(l:List Cell) (i:Nat),i<st.mu.length→(st.mu++l)[i]?=st.mu[i]?:=fun l i hi=>List.getElem?_append_left hi
  obtain ⟨rr,hrr⟩:=three m0 m1 m2
  simp [go_sem,e1,e3,e5,e6,e7,e9,h8,cNd_ones,m0]
  refine CallStep.lend (args':=[eTS c.ts,eNd n,lRS L]) hp ⟨.hf _ (hf_eTS _),.hf _ (hf_eNd n),rdRS ho,trivial⟩ (fl_sb S' b) ?_
  have hrl:st.mu.length=rr.length+3:=by rw [hrr];rfl
  clear m0 m1 m2 hpush ho
  simp [go_sem,e1,e3,e5,e6,e7,e9,h8,cNd_ones,hrr,hB_len,QE.tk,pc]
  rw [if_pos (hB_one _)]
  generalize hP:putCells _ 0 (cRS S')=P
  have hP2:P=cRS S':=by rw [←hP];exact pc (aI 0) _ (fun _=>false) _
  subst hP2
  clear hP
  cases b with
  |true =>
   obtain ⟨rfl,rfl⟩:=q2 rfl
   simp [go_sem,e1,e3,e5,e6,e7,e9,h8,hrr,hB_len,QE.tk,pc]
   rw [if_pos (hB_one _)]
   simp [go_sem,e1,e3,e5,e6,e7,e9,h8,hrr,hB_len,QE.tk,pc]
   exact .hf _ (hf_end S (0,0))
  |false =>
   obtain ⟨rfl,rfl⟩:=q3 rfl
   simp [go_sem,e1,e3,e5,e6,e7,e9,h8,hrr,hB_len,QE.tk,pc]
   refine DrawGo.seg [0,1,2,3,4,5] [(0,0,[]),(1,0,[]),(2,0,[]),(3,0,[]),(4,1,[2]),(5,1,[])] (by kernel_rfl) (by kernel_rfl) (by simp [go_sem]) ?_
   simp [go_sem,e1,e3,e5,e6,e7,e9,h8,hrr,hB_len,QE.tk,pc]
   exact .hf _ (hf_end zR (42,n.pos))
theorem ex_tF0 (c:Ck) (hc:okCk c) (s:Scp) (n:Nd) (B:Bool) (X:Nd→Res) (S:RS) (D:Dg) (h1:¬n.op=1) (h47:¬n.op=47) (hb:¬(n.op=15∨n.op=45∨n.op=46)) (hw:WfN n) (hkl:n.kids.length≤401) (hT:True) (h12:¬n.op=12) (h13:¬n.op=13) (hBt:B=false)
  (hX1:∀ k,k∈n.kids→∃ S,SoundP Tryz.prog 46 [eVw c B,lVr (envS s),eNd k] (.tup [eRS S,eDg (dgOf (X k))])∧(kd k.op=101→∀ q,X k = .ok (some q)→S=setOf q))
  (hXok:∀ k a,k∈n.kids→X k = .ok a→kd k.op=101→∃ q,a=some q∧okKd c.ts.sorts.length q)
  (hXerr:∀ k e,X k = .error e→40≤e.1)
  (hfe:∀ e,seqL X n.kids = .error e→S=zR∧D=e)
  (hfo:∀ l,seqL X n.kids = .ok l→∃ S' b,(∀ L:List RS,((n.op=5∨n.op=11∨n.op=12∨n.op=13)∨(n.op=6∨n.op=14∨n.op=7∨n.op=8∨n.op=32∨n.op=33∨n.op=9∨n.op=10)→L=l.map setO)→prC c.ts n L S' b)∧(b=true→S=S'∧D=(0,0))∧(b=false→S=zR∧D=(42,n.pos))) :
  SoundP Tryz.prog 46 [eVw c false,lVr (envS s),eNd n] (.tup [eRS S,eDg D]):=by
 simp only [not_or] at hb
 obtain ⟨b1,b2,b3⟩:=hb
 refine SoundP.of_sound (Sound.of_awp Tryz.call46 Tryz.func46 rfl (Nat.le_of_ble_eq_true (by kernel_rfl)) (by kernel_rfl) (pl:={ mt:=[3] }) ?_)
 have ct:=timedU n.op
 have cp:=temporalPredU c hc n.name
 simp [go_sem,h1,h47,b1,b2,b3]
 simp [go_sem,h12,h13]
 refine LoopGo.upK n.kids.length (fun k st=>∃(acc:List (Option Kd)) (L:List RS),acc.length=k∧L.length=k∧st.tm 1=lVr (envS s)∧st.tm 3 = .ptr 0 0∧st.tm 5 = .ip (cNd n)∧st.tm 6 = .ptr 1 0∧st.tm 7 = .ptr 2 0∧st.tm 9=aI k∧st.mu[0]?=some (.arr (cVw c B))∧st.mu[1]?=some (.arr (aI 0 :: hB fun _=>false))∧st.mu[2]?=some (.arr [aI 0,aI 0])∧OwnF 3 st.mu 65 (st.tm 8) (L.map cRS)∧(∀(i:Nat) x,n.kids[i]?=some x→i<k→kd x.op=101→∃ q,acc[i]?=some (some q)∧L[i]?=some (setOf q))∧seqL X n.kids=(match seqL X (n.kids.drop k) with | .error e => .error e | .ok l => .ok (acc++l))) ?_ ?_
 ·refine ⟨[],[],rfl,rfl,by simp [go_sem],by simp [go_sem],by simp [go_sem],by simp [go_sem],by simp [go_sem],by simp [go_sem],by rw [hBt];simp [go_sem],by simp [go_sem];rfl,by simp [go_sem],by simp [go_sem];exact OwnF.nil (by simp),fun i x _ h=>absurd h (by omega),?_⟩
  simp only [List.drop_zero,List.nil_append]
  cases seqL X n.kids<;>rfl
 rintro k st hk ⟨acc,L,hal,hll,e1,e3,e5,e6,e7,e9,m0,m1,m2,ho,hrel,hE⟩
 generalize h8:st.tm 8=av at *
 by_cases hlt:k<n.kids.length
 ·have w1:IntKind.i64.wrap ((k:Int)+1)=(k:Int)+1:=wrap_i64 (by omega) (by omega)
  obtain ⟨Sk,ck,hk1⟩:=hX1 n.kids[k] (List.getElem_mem hlt)
  rw [List.drop_eq_getElem_cons hlt] at hE
  simp only [seqL] at hE
  simp [go_sem,e1,e3,e5,e6,e7,e9,h8,hlt,cNd_ones]
  refine DrawGo.seg [0,1,2,3,4,5,6,7,8,9,10,11,12,13,14] [(0,0,[]),(1,0,[]),(2,0,[]),(3,0,[]),(4,0,[]),(5,0,[]),(6,0,[]),(7,1,[]),(8,0,[]),(9,0,[]),(10,0,[]),(11,2,[0,3,6]),(12,2,[0,3,6]),(13,1,[]),(14,1,[])] (by kernel_rfl) (by kernel_rfl) (by simp [go_sem]) ?_
  have hml:2<st.mu.length:=(List.getElem?_eq_some_iff.1 m2).1
  have hpush:∀(l:List Cell) (i:Nat),i<st.mu.length→(st.mu++l)[i]?=st.mu[i]?:=fun l i hi=>List.getElem?_append_left hi
  have p0:=fun l=>(hpush l 0 (by omega)).trans m0
  have p1:=fun l=>(hpush l 1 (by omega)).trans m1
  have p2:=fun l=>(hpush l 2 (by omega)).trans m2
  have g0:=(List.getElem?_eq_some_iff.1 m0).2
  have g1:=(List.getElem?_eq_some_iff.1 m1).2
  have g2:=(List.getElem?_eq_some_iff.1 m2).2
  have hl0:0<st.mu.length:=by omega
  have hl1:1<st.mu.length:=by omega
  simp [go_sem,e1,e3,e5,e6,e7,e9,h8,hlt,cNd_ones,m0]
  refine CallStep.pure ck (wkE c _ _ _) ?_
  cases hx:X n.kids[k] with
  |error e =>
   have he:=hXerr _ _ hx
   have he0:¬e.1=0:=by omega
   rw [hx] at hE
   have hE:seqL X n.kids = .error e:=hE
   obtain ⟨hS0,hD0⟩:=hfe e hE
   rw [hS0,hD0]
   simp [go_sem,e1,e3,e5,e6,e7,e9,h8,hlt,cNd_ones,m0,g0,p0,hl0,hB_len,QE.tk,pc,he0,dgOf]
   rw [if_pos (hB_one _)]
   generalize hP:putCells _ 0 (cRS Sk)=P
   have hP2:P=cRS Sk:=by rw [←hP];exact pc (aI 0) _ (fun _=>false) _
   subst hP2
   clear hP
   simp [go_sem,e1,e3,e5,e6,e7,e9,h8,hlt,cNd_ones,m0,g0,p0,hl0,hB_len,QE.tk,pc,he0,dgOf]
   refine DrawGo.seg [0,1,2,3] [(0,0,[]),(1,0,[]),(2,1,[1]),(3,1,[])] (by kernel_rfl) (by kernel_rfl) (by simp [go_sem]) ?_
   simp [go_sem,e1,e3,e5,e6,e7,e9,h8,hlt,cNd_ones,m0,g0,p0,hl0,hB_len,QE.tk,pc,he0,dgOf,p1,p2,g1,g2,hl1,hml]
   exact .hf _ (hf_end zR e)
  |ok a =>
   rw [hx] at hE
   simp only at hE
   simp [go_sem,e1,e3,e5,e6,e7,e9,h8,hlt,cNd_ones,m0,g0,p0,hl0,hB_len,QE.tk,pc,dgOf]
   rw [if_pos (hB_one _)]
   generalize hP:putCells _ 0 (cRS Sk)=P
   have hP2:P=cRS Sk:=by rw [←hP];exact pc (aI 0) _ (fun _=>false) _
   subst hP2
   clear hP
   simp [go_sem,e1,e3,e5,e6,e7,e9,h8,hlt,cNd_ones,m0,g0,p0,hl0,hB_len,QE.tk,pc,dgOf]
   rw [if_pos (hB_one _)]
   simp [go_sem,e1,e3,e5,e6,e7,e9,h8,hlt]
   refine appRS (lo:=3) (xs:=L) (ys:=[Sk]) ⟨by simpa using own_push (own_push ho.1 _) _,ho.2.1,by have:=ho.2.2;simp;omega⟩ (by simp [rowsOf]) (by simp;omega) fun av' m' ho' hm'=>?_
   simp [go_sem,e1,e3,e5,e6,e7,e9,h8,hlt,w1]
   refine Keep.mk' ⟨acc++[a],L++[Sk],by simp [hal],by simp [hll],by simp [go_sem,e1],by simp [go_sem,e3],by simp [go_sem,e5],by simp [go_sem,e6],by simp [go_sem,e7],by simp [go_sem],?_,?_,?_,by simpa [go_sem] using ho',fun i x hi hik hkd=>?_,?_⟩
   ·simp only [put_mu];exact (hm' 0 (by omega)).trans (p0 _)
   ·simp only [put_mu];exact (hm' 1 (by omega)).trans (p1 _)
   ·simp only [put_mu];exact (hm' 2 (by omega)).trans (p2 _)
   ·by_cases hik2:i=k
    ·subst hik2
     rw [List.getElem?_eq_getElem hlt] at hi
     cases hi
     obtain ⟨q,rfl,_⟩:=hXok _ a (List.getElem_mem hlt) hx hkd
     refine ⟨q,?_,?_⟩
     ·rw [List.getElem?_append_right (by omega),hal];simp
     ·rw [List.getElem?_append_right (by omega),hll];simp [hk1 hkd q hx]
    ·obtain ⟨q,q1,q2⟩:=hrel i x hi (by omega) hkd
     exact ⟨q,by rw [List.getElem?_append_left (by omega)];exact q1,by rw [List.getElem?_append_left (by omega)];exact q2⟩
   ·rw [hE]
    cases seqL X (n.kids.drop (k+1)) with
    |error e=>rfl
    |ok l=>simp
 ·have hkl':k=n.kids.length:=by omega
  subst hkl'
  rw [List.drop_length] at hE
  have hE:seqL X n.kids = .ok acc:=by rw [hE];simp only [seqL,List.append_nil]
  obtain ⟨S',b,q1,q2,q3⟩:=hfo acc hE
  have hL:((n.op=5∨n.op=11∨n.op=12∨n.op=13)∨(n.op=6∨n.op=14∨n.op=7∨n.op=8∨n.op=32∨n.op=33∨n.op=9∨n.op=10))→L=acc.map setO:=fun h=>by
   have hkd:∀ x,x∈n.kids→kd x.op=101:=fun x hx=>kids_rel hw h x hx
   refine List.ext_getElem? fun i=>?_
   by_cases hi:i<n.kids.length
   ·obtain ⟨q,e1,e2⟩:=hrel i n.kids[i] (by simp [hi]) hi (hkd _ (List.getElem_mem hi))
    rw [e2,List.getElem?_map,e1];rfl
   ·rw [List.getElem?_eq_none (by omega),List.getElem?_eq_none (by simp;omega)]
  have hp:=q1 L hL
  unfold prC at hp
  have hml:2<st.mu.length:=(List.getElem?_eq_some_iff.1 m2).1
  have hpush:∀(l:List Cell) (i:Nat),i<st.mu.length→(st.mu++l)[i]?=st.mu[i]?:=fun l i hi=>List.getElem?_append_left hi
  obtain ⟨rr,hrr⟩:=three m0 m1 m2
  simp [go_sem,e1,e3,e5,e6,e7,e9,h8,cNd_ones,m0]
  refine CallStep.lend (args':=[eTS c.ts,eNd n,lRS L]) hp ⟨.hf _ (hf_eTS _),.hf _ (hf_eNd n),rdRS ho,trivial⟩ (fl_sb S' b) ?_
  have hrl:st.mu.length=rr.length+3:=by rw [hrr];rfl
  clear m0 m1 m2 hpush ho
  simp [go_sem,e1,e3,e5,e6,e7,e9,h8,cNd_ones,hrr,hB_len,QE.tk,pc]
  rw [if_pos (hB_one _)]
  generalize hP:putCells _ 0 (cRS S')=P
  have hP2:P=cRS S':=by rw [←hP];exact pc (aI 0) _ (fun _=>false) _
  subst hP2
  clear hP
  cases b with
  |true =>
   obtain ⟨rfl,rfl⟩:=q2 rfl
   simp [go_sem,e1,e3,e5,e6,e7,e9,h8,hrr,hB_len,QE.tk,pc]
   rw [if_pos (hB_one _)]
   simp [go_sem,e1,e3,e5,e6,e7,e9,h8,hrr,hB_len,QE.tk,pc]
   exact .hf _ (hf_end S (0,0))
  |false =>
   obtain ⟨rfl,rfl⟩:=q3 rfl
   simp [go_sem,e1,e3,e5,e6,e7,e9,h8,hrr,hB_len,QE.tk,pc]
   refine DrawGo.seg [0,1,2,3,4,5] [(0,0,[]),(1,0,[]),(2,0,[]),(3,0,[]),(4,1,[2]),(5,1,[])] (by kernel_rfl) (by kernel_rfl) (by simp [go_sem]) ?_
   simp [go_sem,e1,e3,e5,e6,e7,e9,h8,hrr,hB_len,QE.tk,pc]
   exact .hf _ (hf_end zR (42,n.pos))
theorem ex_node (c:Ck) (hc:okCk c) (s:Scp) (hs:ScOk c.ts.sorts.length s) (inn:Bool) (n:Nd) (hw:WfN n) (h1:¬n.op=1) (h47:¬n.op=47) (hb:¬(n.op=15∨n.op=45∨n.op=46)) (ht:(inn&&timeOfL c n.op n.name)=false) (ih:∀ k,k∈n.kids→∀ inn,ExR c s inn k):ExR c s inn n:=by
 have hx:exam c s inn n=match examL c s (inn||decide (n.op=12)||decide (n.op=13)) n.kids with | .error e => .error e | .ok l=>applyK c.ts.sorts.length n.op n.n n.pos l:=by
  rw [exam_eq,ht,if_neg (by simp),if_neg h1,if_neg h47,if_neg hb]
  generalize examL c s _ n.kids=Z
  cases Z<;>rfl
 have hB1:n.op=12∨n.op=13→(inn||decide (n.op=12)||decide (n.op=13))=true:=fun h=>by rcases h with h | h<;>simp [h]
 have hB2:¬n.op=12→¬n.op=13→(inn||decide (n.op=12)||decide (n.op=13))=inn:=fun h h'=>by simp [h,h']
 generalize (inn||decide (n.op=12)||decide (n.op=13))=B at *
 obtain ⟨S,D,hSD,hq,hfe,hfo⟩:∃ S D,dgOf (exam c s inn n)=D∧(kd n.op=101→∀ q,exam c s inn n = .ok (some q)→S=setOf q)∧(∀ e,examL c s B n.kids = .error e→S=zR∧D=e) ∧
   (∀ l,examL c s B n.kids = .ok l→∃ S' b,(∀ L:List RS,((n.op=5∨n.op=11∨n.op=12∨n.op=13)∨(n.op=6∨n.op=14∨n.op=7∨n.op=8∨n.op=32∨n.op=33∨n.op=9∨n.op=10)→L=l.map setO)→prC c.ts n L S' b)∧(b=true→S=S'∧D=(0,0))∧(b=false→S=zR∧D=(42,n.pos))):=by
  rw [hx]
  cases hE:examL c s B n.kids with
  |error e=>exact ⟨zR,e,rfl,(fun _ q h=>by cases h),(fun e' h=>by cases h;exact ⟨rfl,rfl⟩),(fun l h=>by cases h)⟩
  |ok l =>
   obtain ⟨hl1,hl2⟩:=examL_ok hE
   have hap:=(apOk_of hc.ts.ns hw hl1 (fun i k' a hi ha hkd=>exam_ok hc (szN k') k' s B a (Nat.le_refl _) (hw.kid (List.mem_of_getElem? hi)) hs (hl2 i k' a hi ha) hkd)).2
   obtain ⟨S',b,p1,p2⟩:=applyR2U c.ts hc.ts n l h1 (fun h=>hb (.inl h)) (fun h=>by
    rcases h with h | h | h | h
    ·exact hap.1 h
    ·exact hap.2.1 (.inl h)
    ·exact hap.2.1 (.inr (.inl h))
    ·exact hap.2.1 (.inr (.inr h))) hap.2.2
   simp only
   cases hA:applyK c.ts.sorts.length n.op n.n n.pos l with
   |error e =>
    rw [hA] at p2
    have p2:b=false:=p2
    refine ⟨zR,e,rfl,(fun _ q h=>by cases h),(fun e' h=>by cases h),(fun l' h=>by cases h;exact ⟨S',b,p1,(fun h=>by rw [p2] at h;cases h),(fun _=>⟨rfl,apply_42 hA⟩)⟩)⟩
   |ok ko =>
    rw [hA] at p2
    obtain ⟨p2,p3⟩:=p2
    refine ⟨S',(0,0),rfl,(fun hk q h=>?_),(fun e' h=>by cases h),(fun l' h=>by cases h;exact ⟨S',b,p1,(fun _=>⟨rfl,rfl⟩),(fun h=>by rw [p2] at h;cases h)⟩)⟩
    obtain ⟨q',e1,e2⟩:=p3 hk
    cases h
    cases e1
    exact e2
 refine ⟨S,?_,hq⟩
 rw [hSD]
 clear hSD hx hq
 obtain ⟨X,hX⟩:∃ X:Nd→Res,X=exam c s B:=⟨_,rfl⟩
 have hX1:∀ k,k∈n.kids→∃ S,SoundP Tryz.prog 46 [eVw c B,lVr (envS s),eNd k] (.tup [eRS S,eDg (dgOf (X k))])∧(kd k.op=101→∀ q,X k = .ok (some q)→S=setOf q):=fun k hk=>by rw [hX];exact ih k hk B
 have hXok:∀ k a,k∈n.kids→X k = .ok a→kd k.op=101→∃ q,a=some q∧okKd c.ts.sorts.length q:=fun k a hk h hkd=>by rw [hX] at h;exact exam_ok hc (szN k) k s B a (Nat.le_refl _) (hw.kid hk) hs h hkd
 have hXerr:∀ k e,X k = .error e→40≤e.1:=fun k e h=>by rw [hX] at h;exact exam_err c (szN k) k s B e (Nat.le_refl _) h
 rw [examL_seq,←hX] at hfe hfo
 clear hX ih
 have hkl:=hw.len
 cases inn with
 |true =>
  have hT:timeOp n.op=false:=by
   rw [Bool.true_and,time_eq,Bool.or_eq_false_iff] at ht
   exact ht.1
  by_cases h12:n.op=12
  ·exact ex_tT12 c hc s n B X S D h1 h47 hb hw hkl hT h12 (by omega) (hB1 (.inl h12)) hX1 hXok hXerr hfe hfo
  by_cases h13:n.op=13
  ·exact ex_tT13 c hc s n B X S D h1 h47 hb hw hkl hT h12 h13 (hB1 (.inr h13)) hX1 hXok hXerr hfe hfo
  exact ex_tT0 c hc s n B X S D h1 h47 hb hw hkl hT h12 h13 (hB2 h12 h13) hX1 hXok hXerr hfe hfo
 |false =>
  by_cases h12:n.op=12
  ·exact ex_tF12 c hc s n B X S D h1 h47 hb hw hkl trivial h12 (by omega) (hB1 (.inl h12)) hX1 hXok hXerr hfe hfo
  by_cases h13:n.op=13
  ·exact ex_tF13 c hc s n B X S D h1 h47 hb hw hkl trivial h12 h13 (hB1 (.inr h13)) hX1 hXok hXerr hfe hfo
  exact ex_tF0 c hc s n B X S D h1 h47 hb hw hkl trivial h12 h13 (hB2 h12 h13) hX1 hXok hXerr hfe hfo
theorem examRU (c:Ck) (hc:okCk c):∀(m:Nat) (n:Nd),depN n≤m→WfN n→∀(s:Scp),ScOk c.ts.sorts.length s→s.length+m≤80000→∀ inn,ExR c s inn n
 | 0,n,hm,_,_,_,_,_=>by have:=dep_nn n;omega
 |m+1,n,hm,hw,s,hs,hsl,inn=>by
  have ih:∀ k,k∈n.kids→∀ s',ScOk c.ts.sorts.length s'→s'.length≤s.length+1→∀ inn,ExR c s' inn k:=fun k hk s' hs' hl inn=>examRU c hc m k (by have:=depNs_kid hk;rw [depN_eq] at hm;omega) (hw.kid hk) s' hs' (by omega) inn
  cases ht:inn&&timeOfL c n.op n.name with
  |true =>
   rw [Bool.and_eq_true] at ht
   rw [ht.1]
   exact ex_time c hc s n ht.2
  |false =>
   by_cases h1:n.op=1
   ·exact ex_name c hc s (by omega) inn n h1
   by_cases h47:n.op=47
   ·exact ex_call c hc s hs inn n hw h47 ht fun k hk=>ih k hk s hs (by omega) true
   by_cases hb:n.op=15∨n.op=45∨n.op=46
   ·exact ex_bind c hc s hs (by omega) inn n hw hb ht ih
   ·exact ex_node c hc s hs inn n hw h1 h47 hb ht fun k hk inn=>ih k hk s hs (by omega) inn
end Go.Proofs.YtcfopdccdeeleaaGreatDoor.QS


namespace Go.Proofs.YtcfopdccdeeleaaGreatDoor.QT
open Go Go.Ev Go.Proofs Go.Proofs.YtcfopdccdeeleaaGreatDoor YM YF Y9 Y10 Y1 Y2 Y3 Y12 Y13 Y14 Y15 Y16 YZ P1 P2 PA PB Q5 QA QD QE QF QG QH QI QJ QK QL QM QN PG QO QR QS
def ckR (ts:TS) (i:Nat):Ck:=⟨ts,i,tmsL ts ts.preds.length⟩
theorem okCk_R {ts:TS} (h:okTS ts) {i:Nat} (hi:i≤ts.preds.length):okCk (ckR ts i):=⟨h,hi,by show i≤(tmsL ts ts.preds.length).length;rw [tmsL_len ts _ (Nat.le_refl _)];exact hi⟩
theorem exam_ck {c c':Ck} (hts:c'.ts=c.ts) (hcl:∀ nm,calleeL c' nm=calleeL c nm) (htm:∀ op nm,timeOfL c' op nm=timeOfL c op nm):∀(m:Nat) (n:Nd) (s:Scp) (inn:Bool),szN n≤m→exam c s inn n=exam c' s inn n
 | 0,n,_,_,hm=>by obtain ⟨op,nm,i,ks,p⟩:=n;simp [szN] at hm
 |m+1,n,s,inn,hm=>by
  have hk:∀ k,k∈n.kids→∀(s:Scp) (inn:Bool),exam c s inn k=exam c' s inn k:=fun k hk s inn=>exam_ck hts hcl htm m k s inn (by have:=kid_lt hk;omega)
  refine exam_congr rfl rfl rfl rfl (htm _ _) (fun _=>?_) (by rw [hts]) (hcl _) (by rw [hts]) rfl (fun _ ps=>examA_same fun k hkk=>hk k hkk s true) (fun _ inn=>?_) (fun _ _ _ inn=>examL_same fun k hkk=>hk k hkk s inn)
  ·rw [nameK_eq,nameK_eq,hts]
  ·cases hks:n.kids with
   |nil=>rfl
   |cons k ks =>
    have hmem:∀ x,x∈k :: ks→x∈n.kids:=fun x hx=>by rw [hks];exact hx
    simp only [examB]
    rw [hk k (hmem k (List.mem_cons_self ..)) s inn]
    have hr:∀ a,examL c ((n.name,a) :: s) inn ks=examL c' ((n.name,a) :: s) inn ks:=fun a=>examL_same fun x hx=>hk x (hmem x (List.mem_cons_of_mem _ hx)) _ _
    simp only [hr]
theorem exam_R {ts:TS} (h:okTS ts) {i:Nat} (hi:i≤ts.preds.length) (n:Nd) (s:Scp) (inn:Bool):exam (ckR ts i) s inn n=exam (mkCk ts i) s inn n:=by
 refine (exam_ck (c:=mkCk ts i) (c':=ckR ts i) rfl (fun nm=>rfl) (fun op nm=>?_) (szN n) n s inn (Nat.le_refl _)).symm
 unfold timeOfL
 have e:calleeL (ckR ts i) nm=calleeL (mkCk ts i) nm:=rfl
 rw [e]
 cases hc:calleeL (mkCk ts i) nm with
 |none=>rfl
 |some p =>
  obtain ⟨h1,h2⟩:=calleeL_lt (okCk_mk h hi) hc
  have h1:p<i:=h1
  have h2:p<ts.preds.length:=h2
  simp only
  have a1:=PC.tms_get ts p ts.preds.length h2 (Nat.le_refl _) h2
  have a2:=PC.tms_get ts p i h1 hi h2
  show (timeOp op||(decide (op=47)&&(tmsL ts ts.preds.length).getD p false))=(timeOp op||(decide (op=47)&&(tmsL ts i).getD p false))
  rw [a1,a2]
theorem formK_R {ts:TS} (h:okTS ts) {i:Nat} (hi:i≤ts.preds.length) (env:List (ByteArray×Int)) (n:Nd):formK (mkCk ts i) env n=if 30≤n.op then dgOf (exam (ckR ts i) (bindL env) false n) else (43,n.pos):=by
 unfold formK
 rw [exam_R h hi]
theorem checkCU (ts:TS) (h:okTS ts) (wp:∀ p,p∈ts.preds→WfN p.body) (i:Nat) (hi:i≤ts.preds.length) (env:List (ByteArray×Int)) (he:okEnv ts.sorts.length env) (hel:env.length≤1000) (n:Nd) (hw:WfN n) (hd:depN n≤24) :
  SoundP Tryz.prog 64 [eTS ts,aI i,lPm env,eNd n] (eDg (formK (mkCk ts i) env n)):=by
 rw [formK_R h hi]
 have hns:=h.ns
 have hs:=scOk_bind he
 have hbl:(bindL env).length=env.length:=by
  have:=congrArg List.length (envV_eq env)
  rw [envS_len] at this
  simpa [envV] using this.symm
 obtain ⟨S,ce,_⟩:=examRU (ckR ts i) (okCk_R h hi) 24 n hd hw (bindL env) hs (by omega) false
 have cv:=envU env hel (fun p hp=>by have:=he.r p hp;omega)
 rw [envV_eq] at cv
 have c1:=formulaRU n
 have c2:=temporalsU ts h wp
 refine SoundP.of_sound (Sound.of_awp Tryz.call64 Tryz.func64 rfl (Nat.le_of_ble_eq_true (by kernel_rfl)) (by kernel_rfl) (pl:={}) ?_)
 simp [go_sem]
 refine CallStep.pure c1 (.cons (.hf (hf_eNd n)) .nil) ?_
 by_cases h30:30≤n.op
 ·rw [if_pos h30]
  generalize dgOf (exam (ckR ts i) (bindL env) false n)=D at *
  simp [go_sem,h30]
  refine DrawGo.seg [0,1,3,5,7,2,4,6,8,9,10,11,12,13,14,15] [(0,0,[]),(1,0,[]),(3,0,[]),(5,0,[]),(7,0,[]),(2,1,[0,7]),(4,0,[]),(6,1,[0,7]),(8,1,[]),(9,0,[]),(10,0,[]),(11,0,[]),(12,2,[0,1,7]),(13,2,[0,1,7]),(14,1,[]),(15,1,[])] (by kernel_rfl) (by kernel_rfl) (by simp [go_sem]) ?_
  simp [go_sem]
  refine CallStep.pure c2 (.cons (.hf (hf_eTS ts)) .nil) ?_
  simp [go_sem]
  refine CallStep.pure cv (.cons (.hf (hf_lPm env)) .nil) ?_
  simp [go_sem]
  refine CallStep.pure ce (wkE (ckR ts i) false _ n) ?_
  simp [go_sem,hB_len,QE.tk,pc]
  rw [if_pos (hB_one _)]
  generalize hP:putCells _ 0 (cRS S)=P
  have hP2:P=cRS S:=by rw [←hP];exact pc (aI 0) _ (fun _=>false) _
  subst hP2
  clear hP
  simp [go_sem,hB_len,QE.tk,pc]
  exact .hf _ (hf_eDg D)
 ·rw [if_neg h30]
  simp [go_sem,h30]
  exact .hf _ (hf_eDg (43,n.pos))
theorem checkFRU (ts:TS) (h:okTS ts) (wp:∀ p,p∈ts.preds→WfN p.body) (env:List (ByteArray×Int)) (he:okEnv ts.sorts.length env) (hel:env.length≤1000) (n:Nd) (hw:WfN n) (hd:depN n≤24) :
  SoundP Tryz.prog 21 [eTS ts,lPm env,eNd n] (eDg (checkF ts env n)):=by
 have c1:=checkCU ts h wp ts.preds.length (Nat.le_refl _) env he hel n hw hd
 have e:formK (mkCk ts ts.preds.length) env n=checkF ts env n:=rfl
 rw [e] at c1
 generalize checkF ts env n=D at *
 refine SoundP.of_sound (Sound.of_awp Tryz.call21 Tryz.func21 rfl (Nat.le_of_ble_eq_true (by kernel_rfl)) (by kernel_rfl) (pl:={}) ?_)
 simp [go_sem]
 refine CallStep.pure c1 (.cons (.hf (hf_eTS ts)) (.cons (.hf (HF.sc _)) (.cons (.hf (hf_lPm env)) (.cons (.hf (hf_eNd n)) .nil)))) ?_
 simp [go_sem]
 exact .hf _ (hf_eDg D)
theorem dups_app (a b:List Bool):dups (a++b)=dups a++dups b:=by simp [dups]
theorem dups_one (b:Bool):dups [b]=if b=true then [(41,0)] else []:=by cases b<;>rfl
theorem dups_len (l:List Bool):(dups l).length≤l.length:=by
 unfold dups;rw [List.length_map];exact List.length_filter_le ..
theorem repL_take {α:Type} (eqv:α→α→Bool) (l:List α) (k:Nat) (h:k<l.length):(repL eqv l).take (k+1)=(repL eqv l).take k++[(l.take k).any fun y=>eqv l[k] y]:=by
 have hl:k<(repL eqv l).length:=by rw [repL_len];exact h
 rw [List.take_succ_eq_append_getElem hl]
 congr 2
 have:=repL_get eqv l h
 rw [List.getElem?_eq_getElem hl] at this
 exact Option.some.inj this
theorem any_take {α:Type} (p:α→Bool) (l:List α) (k:Nat) (h:k<l.length):(l.take (k+1)).any p=((l.take k).any p||p l[k]):=by
 rw [List.take_succ_eq_append_getElem h,List.any_append];simp only [List.any_cons,List.any_nil,Bool.or_false]
abbrev eS:ByteArray×Bool→ByteArray×Bool→Bool:=fun x y=>decide (x.1=y.1)
abbrev eF:Fld→Fld→Bool:=fun x y=>decide (x.name=y.name)&&decide (x.sorts=y.sorts)
abbrev eP:Pd→Pd→Bool:=fun x y=>decide (x.name=y.name)
abbrev eM:ByteArray×Int→ByteArray×Int→Bool:=fun x y=>decide (x.1=y.1)
abbrev eA:ByteArray×Nd→ByteArray×Nd→Bool:=fun x y=>decide (x.1=y.1)
theorem appDg {mu:Mu} {lo:Nat} {s x:AV} {xs ys:List Dg} {K:AV→Mu→Prop} (ho:OwnF lo mu 2 s (xs.map cDg)) (hx:rowsOf mu x=some (ys.map cDg)) (hl:xs.length+ys.length≤100000) (kk:∀ av mu',OwnF lo mu' 2 av ((xs++ys).map cDg)→(∀ i,i<lo→mu'[i]?=mu[i]?)→K av mu') :
  AppendStep Tryz.prog mu #[36,36] s x K:=by
 have hrows:∀ l:List Dg,rowsWf 2 (l.map cDg):=fun l r hr=>by
  obtain ⟨n,_,rfl⟩:=List.mem_map.1 hr
  exact ⟨rfl,rfl⟩
 refine AppendStep.ownF (lo:=lo) (e:=44) (sz:=2) (bt:=16) (zv := .agg [aI 0,aI 0]) (xs:=xs.map cDg) (ys:=ys.map cDg) (by simp [go_sem]) (by simp [go_sem]) (by simp [go_sem]) rfl rfl (by omega) (by omega) ho hx (hrows xs) (hrows ys) (by simp;omega) ?_
 intro av mu' h h2
 exact kk av mu' (by rw [List.map_append];exact h) h2
theorem declaredU (ts:TS) (h:okTS ts) (mu:Mu):Sound Tryz.prog 37 [eTS ts] mu fun e m=>∃ av,e = .ret av∧OwnF mu.length m 2 av ((dups (repL eS ts.sorts)++dups (repL eF ts.fields)).map cDg)∧∀ i,i<mu.length→m[i]?=mu[i]?:=by
 refine Sound.of_awp Tryz.call37 Tryz.func37 rfl (Nat.le_of_ble_eq_true (by kernel_rfl)) (by kernel_rfl) (pl:={}) ?_
 have hns:=h.ns
 have hnf:=h.nf
 simp [go_sem]
 refine LoopGo.upK ts.sorts.length (fun i st=>st.tm 1 = .ip (cTS ts)∧st.tm 4=aI i∧OwnF mu.length st.mu 2 (st.tm 3) ((dups ((repL eS ts.sorts).take i)).map cDg)∧∀ i,i<mu.length→st.mu[i]?=mu[i]?) ?_ ?_
 ·exact ⟨by simp [go_sem],by simp [go_sem],by simp [go_sem,dups];exact OwnF.nil (Nat.le_refl _),by simp [go_sem]⟩
 rintro i st hi ⟨e1,e4,ho,hm⟩
 have hlen:(dups ((repL eS ts.sorts).take i)).length≤i:=Nat.le_trans (dups_len _) (List.length_take_le ..)
 generalize h3:st.tm 3=av at *
 by_cases hlt:i<ts.sorts.length
 ·have hnx:=repL_take eS ts.sorts i hlt
  have wi:IntKind.i64.wrap ((i:Int)+1)=(i:Int)+1:=wrap_i64 (by omega) (by omega)
  simp [go_sem,e1,e4,h3,hlt]
  refine LoopGo.upK i (fun k st2=>st2.tm 1 = .ip (cTS ts)∧st2.tm 4=aI i∧st2.tm 3=av∧st2.tm 6=aI k∧st2.tm 5=aB ((ts.sorts.take k).any fun y=>eS ts.sorts[i] y)∧st2.mu=st.mu) ?_ ?_
  ·exact ⟨by simp [go_sem,e1],by simp [go_sem,e4],by simp [go_sem,h3],by simp [go_sem],by simp [go_sem],by simp [go_sem]⟩
  rintro k st2 hk ⟨f1,f4,f3,f6,f5,fm⟩
  generalize hT:(ts.sorts.take k).any (fun y=>eS ts.sorts[i] y)=T at *
  by_cases hki:k<i
  ·have hkl:k<ts.sorts.length:=by omega
   have wk:IntKind.i64.wrap ((k:Int)+1)=(k:Int)+1:=wrap_i64 (by omega) (by omega)
   have hany:=any_take (fun y=>eS ts.sorts[i] y) ts.sorts k hkl
   rw [hT] at hany
   simp [go_sem,f1,f4,f3,f6,f5,hki]
   refine DrawGo.intro (by kernel_rfl) ?_
   cases T with
   |true =>
    rw [Bool.true_or] at hany
    simp [go_sem,f1,f4,f3,f6,f5,hki,hkl,hlt,wk]
    exact Keep.mk' ⟨by simp [go_sem,f1],by simp [go_sem,f4],by simp [go_sem,f3],by simp [go_sem],by rw [hany];simp [go_sem],by simp [go_sem,fm]⟩
   |false =>
    rw [Bool.false_or] at hany
    by_cases hq:ts.sorts[k].1=ts.sorts[i].1
    ·have hany2:(ts.sorts.take (k+1)).any (fun y=>eS ts.sorts[i] y)=true:=by rw [hany];exact decide_eq_true hq.symm
     simp [go_sem,f1,f4,f3,f6,f5,hki,hkl,hlt,wk,hq]
     exact Keep.mk' ⟨by simp [go_sem,f1],by simp [go_sem,f4],by simp [go_sem,f3],by simp [go_sem],by rw [hany2];simp [go_sem],by simp [go_sem,fm]⟩
    ·have hany2:(ts.sorts.take (k+1)).any (fun y=>eS ts.sorts[i] y)=false:=by rw [hany];exact decide_eq_false fun e=>hq e.symm
     simp [go_sem,f1,f4,f3,f6,f5,hki,hkl,hlt,wk,str_ne hq]
     exact Keep.mk' ⟨by simp [go_sem,f1],by simp [go_sem,f4],by simp [go_sem,f3],by simp [go_sem],by rw [hany2];simp [go_sem],by simp [go_sem,fm]⟩
  ·have hke:k=i:=by omega
   subst hke
   rw [hT] at hnx
   cases T with
   |true =>
    simp [go_sem,f1,f4,f3,f6,f5,fm]
    refine appDg (ys:=[(41,0)]) ho (by simp [rowsOf]) (by simp;omega) fun av' m' ho' hm'=>?_
    simp [go_sem,f1,f4,wi]
    exact ⟨hlt,Keep.mk' ⟨by simp [go_sem,f1],by simp [go_sem],by rw [hnx,dups_app,dups_one,if_pos rfl];simpa [go_sem] using ho',by simp only [put_mu];exact fun i hi=>(hm' i hi).trans (hm i hi)⟩⟩
   |false =>
    simp [go_sem,f1,f4,f3,f6,f5,fm,wi]
    exact ⟨hlt,Keep.mk' ⟨by simp [go_sem,f1],by simp [go_sem],by rw [hnx,dups_app,dups_one,if_neg (by simp),List.append_nil];simpa [go_sem,f3,fm] using ho,by simp only [put_mu];exact hm⟩⟩
 ·have hie:i=ts.sorts.length:=by omega
  subst hie
  rw [List.take_of_length_le (by rw [repL_len];exact Nat.le_refl _)] at ho
  simp [go_sem,e1,e4,h3]
  generalize hDS:dups (repL eS ts.sorts)=DS0 at *
  have hds:DS0.length≤4:=by rw [←hDS];exact Nat.le_trans (dups_len _) (by rw [repL_len];exact hns)
  refine LoopGo.upK ts.fields.length (fun i st=>st.tm 1 = .ip (cTS ts)∧st.tm 7=aI i∧OwnF mu.length st.mu 2 (st.tm 3) ((DS0++dups ((repL eF ts.fields).take i)).map cDg)∧∀ i,i<mu.length→st.mu[i]?=mu[i]?) ?_ ?_
  ·exact ⟨by simp [go_sem,e1],by simp [go_sem],by simpa [go_sem,dups,h3] using ho,by simpa [go_sem] using hm⟩
  clear hlen ho hm e1 e4 h3 hlt hi st
  rintro i st hi ⟨e1,e4,ho,hm⟩
  have hlen:(dups ((repL eF ts.fields).take i)).length≤i:=Nat.le_trans (dups_len _) (List.length_take_le ..)
  generalize h3:st.tm 3=av2 at *
  by_cases hlt:i<ts.fields.length
  ·have hnx:=repL_take eF ts.fields i hlt
   have wi:IntKind.i64.wrap ((i:Int)+1)=(i:Int)+1:=wrap_i64 (by omega) (by omega)
   simp [go_sem,e1,e4,h3,hlt]
   refine LoopGo.upK i (fun k st2=>st2.tm 1 = .ip (cTS ts)∧st2.tm 7=aI i∧st2.tm 3=av2∧st2.tm 9=aI k∧st2.tm 8=aB ((ts.fields.take k).any fun y=>eF ts.fields[i] y)∧st2.mu=st.mu) ?_ ?_
   ·exact ⟨by simp [go_sem,e1],by simp [go_sem,e4],by simp [go_sem,h3],by simp [go_sem],by simp [go_sem],by simp [go_sem]⟩
   rintro k st2 hk ⟨f1,f4,f3,f6,f5,fm⟩
   generalize hT:(ts.fields.take k).any (fun y=>eF ts.fields[i] y)=T at *
   by_cases hki:k<i
   ·have hkl:k<ts.fields.length:=by omega
    have wk:IntKind.i64.wrap ((k:Int)+1)=(k:Int)+1:=wrap_i64 (by omega) (by omega)
    have hany:=any_take (fun y=>eF ts.fields[i] y) ts.fields k hkl
    rw [hT] at hany
    have hfl:=h.fl _ (List.getElem_mem hkl)
    have hsm:=sameIntsU ts.fields[k].sorts ts.fields[i].sorts (by omega)
    simp [go_sem,f1,f4,f3,f6,f5,hki]
    refine DrawGo.intro (by kernel_rfl) ?_
    cases T with
    |true =>
     rw [Bool.true_or] at hany
     simp [go_sem,f1,f4,f3,f6,f5,hki,hkl,hlt,wk]
     exact Keep.mk' ⟨by simp [go_sem,f1],by simp [go_sem,f4],by simp [go_sem,f3],by simp [go_sem],by rw [hany];simp [go_sem],by simp [go_sem,fm]⟩
    |false =>
     rw [Bool.false_or] at hany
     by_cases hq:ts.fields[k].name=ts.fields[i].name
     ·simp [go_sem,f1,f4,f3,f6,f5,hki,hkl,hlt,wk,hq]
      refine CallStep.pure hsm (.cons (.hf (hf_lI _)) (.cons (.hf (hf_lI _)) .nil)) ?_
      by_cases hq2:ts.fields[k].sorts=ts.fields[i].sorts
      ·have hany2:(ts.fields.take (k+1)).any (fun y=>eF ts.fields[i] y)=true:=by rw [hany];simp [eF,hq.symm,hq2.symm]
       simp [go_sem,f1,f4,f3,f6,f5,hki,hkl,hlt,wk,hq2]
       exact Keep.mk' ⟨by simp [go_sem,f1],by simp [go_sem,f4],by simp [go_sem,f3],by simp [go_sem],by rw [hany2];simp [go_sem],by simp [go_sem,fm]⟩
      ·have hany2:(ts.fields.take (k+1)).any (fun y=>eF ts.fields[i] y)=false:=by rw [hany];simp [eF,hq.symm];exact fun e=>hq2 e.symm
       simp [go_sem,f1,f4,f3,f6,f5,hki,hkl,hlt,wk,hq2]
       exact Keep.mk' ⟨by simp [go_sem,f1],by simp [go_sem,f4],by simp [go_sem,f3],by simp [go_sem],by rw [hany2];simp [go_sem],by simp [go_sem,fm]⟩
     ·have hany2:(ts.fields.take (k+1)).any (fun y=>eF ts.fields[i] y)=false:=by rw [hany];simp [eF];exact fun e=>absurd e.symm hq
      simp [go_sem,f1,f4,f3,f6,f5,hki,hkl,hlt,wk,str_ne hq]
      exact Keep.mk' ⟨by simp [go_sem,f1],by simp [go_sem,f4],by simp [go_sem,f3],by simp [go_sem],by rw [hany2];simp [go_sem],by simp [go_sem,fm]⟩
   ·have hke:k=i:=by omega
    subst hke
    rw [hT] at hnx
    cases T with
    |true =>
     simp [go_sem,f1,f4,f3,f6,f5,fm]
     refine appDg (ys:=[(41,0)]) ho (by simp [rowsOf]) (by simp;omega) fun av' m' ho' hm'=>?_
     simp [go_sem,f1,f4,wi]
     exact ⟨hlt,Keep.mk' ⟨by simp [go_sem,f1],by simp [go_sem],by rw [hnx,dups_app,dups_one,if_pos rfl,←List.append_assoc];simpa [go_sem] using ho',by simp only [put_mu];exact fun i hi=>(hm' i hi).trans (hm i hi)⟩⟩
    |false =>
     simp [go_sem,f1,f4,f3,f6,f5,fm,wi]
     exact ⟨hlt,Keep.mk' ⟨by simp [go_sem,f1],by simp [go_sem],by rw [hnx,dups_app,dups_one,if_neg (by simp),List.append_nil];simpa [go_sem,f3,fm] using ho,by simp only [put_mu];exact hm⟩⟩
  ·have hie:i=ts.fields.length:=by omega
   subst hie
   rw [List.take_of_length_le (by rw [repL_len];exact Nat.le_refl _)] at ho
   simp [go_sem,e1,e4,h3]
   exact ⟨by simpa using ho,hm⟩
end Go.Proofs.YtcfopdccdeeleaaGreatDoor.QT


namespace Go.Proofs.YtcfopdccdeeleaaGreatDoor.QU
open Go Go.Ev Go.Proofs Go.Proofs.YtcfopdccdeeleaaGreatDoor YM YF Y9 Y10 Y1 Y2 Y3 Y12 Y13 Y14 Y15 Y16 YZ P1 P2 PA PB Q5 QA QD QE QF QG QH QI QJ QK QL QM QN PG QO QR QS QT
theorem callee_take {ts:TS} {i:Nat} (hi:i<ts.preds.length):(∃ p:Nat,calleeL (ckR ts i) ts.preds[i].name=some p∧(ts.preds.take i).any (fun y=>eP ts.preds[i] y)=true)∨(calleeL (ckR ts i) ts.preds[i].name=none∧(ts.preds.take i).any (fun y=>eP ts.preds[i] y)=false):=by
 cases h:calleeL (ckR ts i) ts.preds[i].name with
 |some p =>
  left
  refine ⟨p,rfl,?_⟩
  unfold calleeL at h
  rw [List.findIdx?_eq_some_iff_getElem] at h
  obtain ⟨hp,a1,_⟩:=h
  refine List.any_eq_true.2 ⟨_,List.getElem_mem hp,?_⟩
  have a1:decide ((ts.preds.take i)[p].name=ts.preds[i].name)=true:=a1
  have a1:(ts.preds.take i)[p].name=ts.preds[i].name:=by simpa using a1
  exact decide_eq_true a1.symm
 |none =>
  right
  refine ⟨rfl,?_⟩
  unfold calleeL at h
  rw [List.findIdx?_eq_none_iff] at h
  rw [List.any_eq_false]
  intro x hx
  have:=h x hx
  have:¬x.name=ts.preds[i].name:=by simpa using this
  simpa using fun e:ts.preds[i].name=x.name=>this e.symm
theorem rp_len (d:Dg):(rp d).length≤1:=by unfold rp;split<;>simp
theorem rdDg {lo:Nat} {mu:Mu} {av:AV} {xs:List Dg} (h:OwnF lo mu 2 av (xs.map cDg)):Rd mu av (lDg xs):=by
 refine h.1.rd (rowsWf.ok fun r hr=>?_) fun r hr c hc=>?_
 ·obtain ⟨n,_,rfl⟩:=List.mem_map.1 hr
  exact ⟨rfl,rfl⟩
 ·obtain ⟨n,_,rfl⟩:=List.mem_map.1 hr
  rcases List.mem_cons.1 hc with rfl | hc
  ·exact HF.sc _
  ·rw [List.mem_singleton] at hc;subst hc;exact HF.sc _
theorem ofPush {lo sz:Nat} {mu:Mu} {av:AV} {xs:List (List AV)} (h:OwnF lo mu sz av xs) (c:Cell):OwnF lo (mu++[c]) sz av xs:=⟨own_push h.1 c,h.2.1,by have:=h.2.2;simp;omega⟩
theorem definedU (ts:TS) (h:okTS ts) (wp:∀ p,p∈ts.preds→WfN p.body) (i:Nat) (hi:i<ts.preds.length) (hd:depN ts.preds[i].body≤24):SoundP Tryz.prog 38 [eTS ts,aI i] (lDg (predD ts i)):=by
 have hpd:=h.pl _ (List.getElem_mem hi)
 have hnp:=h.np
 have c1:=checkCU ts h wp i (by omega) ts.preds[i].params ⟨by omega,hpd.2⟩ (by omega) ts.preds[i].body (wp _ (List.getElem_mem hi)) hd
 have c2:=predU (ckR ts i) (okCk_R h (by omega)) ts.preds[i].name
 have hct:=callee_take hi
 have hp:predD ts i=dups [(ts.preds.take i).any (fun y=>eP ts.preds[i] y)]++(dups (repL eM ts.preds[i].params)++rp (formK (mkCk ts i) ts.preds[i].params ts.preds[i].body)):=by
  unfold predD
  rw [List.getElem?_eq_getElem hi]
  simp only
  rw [repB_eq,List.getElem?_eq_getElem hi]
 rw [hp]
 generalize hD:formK (mkCk ts i) ts.preds[i].params ts.preds[i].body=D at *
 generalize hb:(ts.preds.take i).any (fun y=>eP ts.preds[i] y)=b at *
 have hdl:(dups [b]).length≤1:=by cases b<;>simp [dups]
 refine SoundP.of_sound (Sound.of_awp Tryz.call38 Tryz.func38 rfl (Nat.le_of_ble_eq_true (by kernel_rfl)) (by kernel_rfl) (pl:={}) ?_)
 simp [go_sem]
 refine DrawGo.intro (by kernel_rfl) ?_
 simp [go_sem,hi,cPd_row]
 refine CallStep.pure c2 (.cons (.hf (hf_eTS _)) (.cons (.hf (HF.sc _)) (.cons (.hf (HF.sc _)) .nil))) ?_
 have wk:WKs [eTS ts,aI i,lPm ts.preds[i].params,eNd ts.preds[i].body] [eTS ts,aI i,lPm ts.preds[i].params,eNd ts.preds[i].body] := .cons (.hf (hf_eTS _)) (.cons (.hf (HF.sc _)) (.cons (.hf (hf_lPm _)) (.cons (.hf (hf_eNd _)) .nil)))
 have hrow:=cPd_row
 have fin:∀ st:St,True:=fun _=>trivial
 rcases hct with ⟨p,hc,hbt⟩ | ⟨hc,hbt⟩
 case' inl =>
  subst hbt
  rw [hc]
  have hp0:(0:Int)≤(p:Int):=by omega
  simp [go_sem,idxO,hp0]
  refine appDg (lo:=0) (xs:=[]) (ys:=[(41,0)]) (OwnF.nil (by simp)) (by simp [rowsOf]) (by simp) fun av0 m0 ho0 _=>?_
  simp [go_sem,hi,cPd_row]
 case' inr =>
  subst hbt
  rw [hc]
  simp [go_sem,idxO,hi,cPd_row]
 all_goals
  generalize hpp:ts.preds[i]=pd at *
 case' inl =>
  refine LoopGo.upK pd.params.length (fun k st=>st.tm 2 = .ip (cTS ts)∧st.tm 1=aI i∧st.tm 6=lPm pd.params∧st.tm 7=aI k∧OwnF 0 st.mu 2 (st.tm 5) ((dups [true]++dups ((repL eM pd.params).take k)).map cDg)) ?_ ?_
  ·exact ⟨by simp [go_sem],by simp [go_sem],by simp [go_sem],by simp [go_sem],by simpa [go_sem,dups] using ho0⟩
 case' inr =>
  refine LoopGo.upK pd.params.length (fun k st=>st.tm 2 = .ip (cTS ts)∧st.tm 1=aI i∧st.tm 6=lPm pd.params∧st.tm 7=aI k∧OwnF 0 st.mu 2 (st.tm 5) ((dups [false]++dups ((repL eM pd.params).take k)).map cDg)) ?_ ?_
  ·exact ⟨by simp [go_sem],by simp [go_sem],by simp [go_sem],by simp [go_sem],by simp [go_sem,dups];exact OwnF.nil (by simp)⟩
 all_goals
  rintro k st hk ⟨e2,e1,e6,e7,ho⟩
  have hlen:(dups ((repL eM pd.params).take k)).length≤k:=Nat.le_trans (Y16.dups_len _) (List.length_take_le ..)
  generalize h5:st.tm 5=av at *
  by_cases hlt:k<pd.params.length
  ·have hnx:=repL_take eM pd.params k hlt
   have wi:IntKind.i64.wrap ((k:Int)+1)=(k:Int)+1:=wrap_i64 (by omega) (by omega)
   simp [go_sem,e2,e1,e6,e7,h5,hlt]
   refine LoopGo.upK k (fun j st2=>st2.tm 2 = .ip (cTS ts)∧st2.tm 1=aI i∧st2.tm 6=lPm pd.params∧st2.tm 7=aI k∧st2.tm 5=av∧st2.tm 9=aI j∧st2.tm 8=aB ((pd.params.take j).any fun y=>eM pd.params[k] y)∧st2.mu=st.mu) ?_ ?_
   ·exact ⟨by simp [go_sem,e2],by simp [go_sem,e1],by simp [go_sem,e6],by simp [go_sem,e7],by simp [go_sem,h5],by simp [go_sem],by simp [go_sem],by simp [go_sem]⟩
   rintro j st2 hj ⟨f2,f1,f6,f7,f5,f9,f8,fm⟩
   generalize hT:(pd.params.take j).any (fun y=>eM pd.params[k] y)=T at *
   by_cases hjk:j<k
   ·have hjl:j<pd.params.length:=by omega
    have wj:IntKind.i64.wrap ((j:Int)+1)=(j:Int)+1:=wrap_i64 (by omega) (by omega)
    have hany:=any_take (fun y=>eM pd.params[k] y) pd.params j hjl
    rw [hT] at hany
    simp [go_sem,f2,f1,f6,f7,f5,f9,f8,hjk]
    refine DrawGo.intro (by kernel_rfl) ?_
    cases T with
    |true =>
     rw [Bool.true_or] at hany
     simp [go_sem,f2,f1,f6,f7,f5,f9,f8,hjk,hjl,hlt,wj]
     exact Keep.mk' ⟨by simp [go_sem,f2],by simp [go_sem,f1],by simp [go_sem,f6],by simp [go_sem,f7],by simp [go_sem,f5],by simp [go_sem],by rw [hany];simp [go_sem],by simp [go_sem,fm]⟩
    |false =>
     rw [Bool.false_or] at hany
     by_cases hq:pd.params[j].1=pd.params[k].1
     ·have hany2:(pd.params.take (j+1)).any (fun y=>eM pd.params[k] y)=true:=by rw [hany];exact decide_eq_true hq.symm
      simp [go_sem,f2,f1,f6,f7,f5,f9,f8,hjk,hjl,hlt,wj,hq]
      exact Keep.mk' ⟨by simp [go_sem,f2],by simp [go_sem,f1],by simp [go_sem,f6],by simp [go_sem,f7],by simp [go_sem,f5],by simp [go_sem],by rw [hany2];simp [go_sem],by simp [go_sem,fm]⟩
     ·have hany2:(pd.params.take (j+1)).any (fun y=>eM pd.params[k] y)=false:=by rw [hany];exact decide_eq_false fun e=>hq e.symm
      simp [go_sem,f2,f1,f6,f7,f5,f9,f8,hjk,hjl,hlt,wj,str_ne hq]
      exact Keep.mk' ⟨by simp [go_sem,f2],by simp [go_sem,f1],by simp [go_sem,f6],by simp [go_sem,f7],by simp [go_sem,f5],by simp [go_sem],by rw [hany2];simp [go_sem],by simp [go_sem,fm]⟩
   ·have hje:j=k:=by omega
    subst hje
    rw [hT] at hnx
    cases T with
    |true =>
     simp [go_sem,f2,f1,f6,f7,f5,f9,f8,fm]
     refine appDg (ys:=[(41,0)]) ho (by simp [rowsOf]) (by simp;omega) fun av' m' ho' hm'=>?_
     simp [go_sem,f2,f1,f6,f7,wi]
     exact ⟨hlt,Keep.mk' ⟨by simp [go_sem,f2],by simp [go_sem,f1],by simp [go_sem,f6],by simp [go_sem],by rw [hnx,dups_app,←List.append_assoc];simpa [go_sem,dups_one] using ho'⟩⟩
    |false =>
     simp [go_sem,f2,f1,f6,f7,f5,f9,f8,fm,wi]
     exact ⟨hlt,Keep.mk' ⟨by simp [go_sem,f2],by simp [go_sem,f1],by simp [go_sem,f6],by simp [go_sem],by rw [hnx,dups_app];simpa [go_sem,dups_one,f5,fm] using ho⟩⟩
  ·have hke:k=pd.params.length:=by omega
   subst hke
   rw [List.take_of_length_le (by rw [repL_len];exact Nat.le_refl _)] at ho hlen
   simp [go_sem,e2,e1,e6,e7,h5]
   refine DrawGo.intro (by kernel_rfl) ?_
   simp [go_sem,e2,e1,e6,e7,h5,hi,hpp,cPd_row]
   refine CallStep.pure c1 wk ?_
   by_cases hd0:D.1=0
   ·have hrp:rp D=[]:=if_pos hd0
    rw [hrp]
    simp [go_sem,h5,hd0]
    exact rdDg (ofPush ho _)
   ·have hrp:rp D=[D]:=if_neg hd0
    rw [hrp]
    simp [go_sem,h5,hd0]
    refine appDg (ys:=[D]) (ofPush ho _) (by simp [rowsOf]) (by simp only [List.length_append,List.length_singleton];omega) fun av' m' ho' hm'=>?_
    simp [go_sem]
    rw [List.append_assoc] at ho'
    exact rdDg ho'
theorem flat_succ (f:Nat→List Dg) (n:Nat):(List.range (n+1)).flatMap f=(List.range n).flatMap f++f n:=by
 rw [List.range_succ,List.flatMap_append];simp only [List.flatMap_cons,List.flatMap_nil,List.append_nil]
theorem checkRU (ts:TS) (h:okTS ts) (wp:∀ p,p∈ts.preds→WfN p.body) (wf:∀ f,f∈ts.facts→WfN f.2) (dp:∀ p,p∈ts.preds→depN p.body≤24) (df:∀ f,f∈ts.facts→depN f.2≤24):SoundP Tryz.prog 15 [eTS ts] (lDg (checkL ts)):=by
 have hnp:=h.np
 have hnf:=h.nfa
 have hD:(dups (repL eS ts.sorts)++dups (repL eF ts.fields)).length≤10:=by
  have a1:=Y16.dups_len (repL eS ts.sorts)
  have a2:=Y16.dups_len (repL eF ts.fields)
  rw [repL_len] at a1 a2
  have:=h.ns
  have:=h.nf
  rw [List.length_append]
  omega
 have hC:checkL ts=(dups (repL eS ts.sorts)++dups (repL eF ts.fields))++((List.range ts.preds.length).flatMap (predD ts)++(List.range ts.facts.length).flatMap (factD ts ts.facts)):=by
  unfold checkL
  rw [List.append_assoc]
 rw [hC]
 have hdc:=declaredU ts h []
 generalize dups (repL eS ts.sorts)++dups (repL eF ts.fields)=D0 at *
 refine SoundP.of_sound (Sound.of_awp Tryz.call15 Tryz.func15 rfl (Nat.le_of_ble_eq_true (by kernel_rfl)) (by kernel_rfl) (pl:={}) ?_)
 simp [go_sem]
 refine CallStep.eff0 hdc (fun r m hr=>?_) (fun r m hr=>?_)
 case refine_2 =>
  obtain ⟨av,e,_⟩:=hr
  cases e
 obtain ⟨av0,e,ho0,_⟩:=hr
 cases e
 simp [go_sem]
 refine LoopGo.upK ts.preds.length (fun i st=>st.tm 1 = .ip (cTS ts)∧st.tm 4=aI i∧OwnF 0 st.mu 2 (st.tm 3) ((D0++(List.range i).flatMap (predD ts)).map cDg)) ?_ ?_
 ·exact ⟨by simp [go_sem],by simp [go_sem],by simpa [go_sem] using ho0⟩
 rintro i st hi ⟨e1,e4,ho⟩
 have hlen:=Y16.flat_len (predD ts) (Y16.predD_len h) i
 generalize h3:st.tm 3=av at *
 by_cases hlt:i<ts.preds.length
 ·have hnx:=flat_succ (predD ts) i
  have hp1:=Y16.predD_len h i
  have hdf:=definedU ts h wp i hlt (dp _ (List.getElem_mem hlt))
  have wi:IntKind.i64.wrap ((i:Int)+1)=(i:Int)+1:=wrap_i64 (by omega) (by omega)
  generalize predD ts i=PD at *
  simp [go_sem,e1,e4,h3,hlt]
  refine CallStep.pure hdf (.cons (.hf (hf_eTS ts)) (.cons (.hf (HF.sc _)) .nil)) ?_
  simp [go_sem,e1,e4,h3,hlt]
  refine appDg (ys:=PD) ho (by simp [rowsOf]) (by simp only [List.length_append];omega) fun av' m' ho' hm'=>?_
  simp [go_sem,e1,e4,wi]
  exact ⟨hlt,Keep.mk' ⟨by simp [go_sem,e1],by simp [go_sem],by rw [hnx,←List.append_assoc];simpa [go_sem] using ho'⟩⟩
 ·have hie:i=ts.preds.length:=by omega
  subst hie
  simp [go_sem,e1,e4,h3]
  generalize (List.range ts.preds.length).flatMap (predD ts)=P0 at *
  refine LoopGo.upK ts.facts.length (fun i st=>st.tm 1 = .ip (cTS ts)∧st.tm 5=aI i∧OwnF 0 st.mu 2 (st.tm 3) (((D0++P0)++(List.range i).flatMap (factD ts ts.facts)).map cDg)) ?_ ?_
  ·exact ⟨by simp [go_sem,e1],by simp [go_sem],by simpa [go_sem,h3] using ho⟩
  clear ho e1 e4 h3 hlt hi st
  rintro i st hi ⟨e1,e4,ho⟩
  have hlen2:=Y16.flat_len (factD ts ts.facts) (Y16.factD_len ts ts.facts) i
  generalize h3:st.tm 3=av2 at *
  by_cases hlt:i<ts.facts.length
  ·have hnx:=flat_succ (factD ts ts.facts) i
   have hfd:factD ts ts.facts i=dups [(ts.facts.take i).any (fun y=>eA ts.facts[i] y)]++rp (checkF ts [] ts.facts[i].2):=by
    unfold factD
    rw [List.getElem?_eq_getElem hlt]
    simp only
    rw [repB_eq,List.getElem?_eq_getElem hlt]
   rw [hfd] at hnx
   have cf:=checkFRU ts h wp [] ⟨by simp,by simp⟩ (by simp) ts.facts[i].2 (wf _ (List.getElem_mem hlt)) (df _ (List.getElem_mem hlt))
   have wi:IntKind.i64.wrap ((i:Int)+1)=(i:Int)+1:=wrap_i64 (by omega) (by omega)
   generalize checkF ts [] ts.facts[i].2=D at *
   simp [go_sem,e1,e4,h3,hlt]
   refine LoopGo.upK i (fun k st2=>st2.tm 1 = .ip (cTS ts)∧st2.tm 5=aI i∧st2.tm 3=av2∧st2.tm 7=aI k∧st2.tm 6=aB ((ts.facts.take k).any fun y=>eA ts.facts[i] y)∧st2.mu=st.mu) ?_ ?_
   ·exact ⟨by simp [go_sem,e1],by simp [go_sem,e4],by simp [go_sem,h3],by simp [go_sem],by simp [go_sem],by simp [go_sem]⟩
   rintro k st2 hk ⟨f1,f4,f3,f6,f5,fm⟩
   generalize hT:(ts.facts.take k).any (fun y=>eA ts.facts[i] y)=T at *
   by_cases hki:k<i
   ·have hkl:k<ts.facts.length:=by omega
    have wk:IntKind.i64.wrap ((k:Int)+1)=(k:Int)+1:=wrap_i64 (by omega) (by omega)
    have hany:=any_take (fun y=>eA ts.facts[i] y) ts.facts k hkl
    rw [hT] at hany
    simp [go_sem,f1,f4,f3,f6,f5,hki]
    refine DrawGo.intro (by kernel_rfl) ?_
    cases T with
    |true =>
     rw [Bool.true_or] at hany
     simp [go_sem,f1,f4,f3,f6,f5,hki,hkl,hlt,wk]
     exact Keep.mk' ⟨by simp [go_sem,f1],by simp [go_sem,f4],by simp [go_sem,f3],by simp [go_sem],by rw [hany];simp [go_sem],by simp [go_sem,fm]⟩
    |false =>
     rw [Bool.false_or] at hany
     by_cases hq:ts.facts[k].1=ts.facts[i].1
     ·have hany2:(ts.facts.take (k+1)).any (fun y=>eA ts.facts[i] y)=true:=by rw [hany];exact decide_eq_true hq.symm
      simp [go_sem,f1,f4,f3,f6,f5,hki,hkl,hlt,wk,hq]
      exact Keep.mk' ⟨by simp [go_sem,f1],by simp [go_sem,f4],by simp [go_sem,f3],by simp [go_sem],by rw [hany2];simp [go_sem],by simp [go_sem,fm]⟩
     ·have hany2:(ts.facts.take (k+1)).any (fun y=>eA ts.facts[i] y)=false:=by rw [hany];exact decide_eq_false fun e=>hq e.symm
      simp [go_sem,f1,f4,f3,f6,f5,hki,hkl,hlt,wk,str_ne hq]
      exact Keep.mk' ⟨by simp [go_sem,f1],by simp [go_sem,f4],by simp [go_sem,f3],by simp [go_sem],by rw [hany2];simp [go_sem],by simp [go_sem,fm]⟩
   ·have hke:k=i:=by omega
    subst hke
    rw [hT] at hnx
    have wkf:WKs [eTS ts,.lst true [],eNd ts.facts[k].2] [eTS ts,lPm [],eNd ts.facts[k].2] := .cons (.hf (hf_eTS ts)) (.cons (WK.lst fun r hr=>absurd hr List.not_mem_nil) (.cons (.hf (hf_eNd _)) .nil))
    have hrw:=cFa_row
    cases T with
    |true =>
     simp [go_sem,f1,f4,f3,f6,f5,fm]
     refine appDg (ys:=[(41,0)]) ho (by simp [rowsOf]) (by simp only [List.length_append,List.length_singleton];omega) fun av' m' ho' hm'=>?_
     simp [go_sem,f1,f4,wi]
     refine DrawGo.intro (by kernel_rfl) ?_
     simp [go_sem,f1,f4,wi,hlt]
     refine CallStep.pure cf wkf ?_
     by_cases hd0:D.1=0
     ·have hrp:rp D=[]:=if_pos hd0
      rw [hrp,List.append_nil] at hnx
      simp [go_sem,f1,f3,f4,wi,hd0,fm]
      exact ⟨hlt,Keep.mk' ⟨by simp [go_sem,f1],by simp [go_sem],by rw [hnx,←List.append_assoc];simpa [go_sem,dups_one] using ofPush ho' (.arr [aI 0,aI D.2])⟩⟩
     ·have hrp:rp D=[D]:=if_neg hd0
      rw [hrp] at hnx
      simp [go_sem,f1,f3,f4,wi,hd0,fm]
      refine appDg (ys:=[D]) (ofPush ho' _) (by simp [rowsOf]) (by simp only [List.length_append,List.length_singleton];omega) fun av2' m2' ho2' hm2'=>?_
      simp [go_sem,f1,f4,wi]
      exact ⟨hlt,Keep.mk' ⟨by simp [go_sem,f1],by simp [go_sem],by rw [hnx,←List.append_assoc];simpa [go_sem,dups_one,List.append_assoc] using ho2'⟩⟩
    |false =>
     simp [go_sem,f1,f4,f3,f6,f5,fm,wi]
     refine DrawGo.intro (by kernel_rfl) ?_
     simp [go_sem,f1,f4,f3,f6,f5,fm,wi,hlt]
     refine CallStep.pure cf wkf ?_
     by_cases hd0:D.1=0
     ·have hrp:rp D=[]:=if_pos hd0
      rw [hrp,List.append_nil] at hnx
      simp [go_sem,f1,f3,f4,wi,hd0,fm]
      exact ⟨hlt,Keep.mk' ⟨by simp [go_sem,f1],by simp [go_sem],by rw [hnx,←List.append_assoc];simpa [go_sem,dups_one,f3] using ofPush ho (.arr [aI 0,aI D.2])⟩⟩
     ·have hrp:rp D=[D]:=if_neg hd0
      rw [hrp] at hnx
      simp [go_sem,f1,f3,f4,wi,hd0,fm]
      refine appDg (ys:=[D]) (ofPush ho _) (by simp [rowsOf]) (by simp only [List.length_append,List.length_singleton];omega) fun av2' m2' ho2' hm2'=>?_
      simp [go_sem,f1,f4,wi]
      exact ⟨hlt,Keep.mk' ⟨by simp [go_sem,f1],by simp [go_sem],by rw [hnx,←List.append_assoc];simpa [go_sem,dups_one,List.append_assoc] using ho2'⟩⟩
  ·have hie:i=ts.facts.length:=by omega
   subst hie
   simp [go_sem,e1,e4,h3]
   rw [List.append_assoc] at ho
   exact rdDg ho
end Go.Proofs.YtcfopdccdeeleaaGreatDoor.QU


namespace Go.Proofs.YtcfopdccdeeleaaGreatDoor.W31
open Go Go.Ev Go.Proofs Go.Proofs.YtcfopdccdeeleaaGreatDoor P1 P2 Y1 Y2 Y3 Y4 YF Y9 Y14 Y16 YW YX YZ YA YB PA YC YE YG YH Q4 Q5 Q6 Q7 Q8 Q9 QA QB
end Go.Proofs.YtcfopdccdeeleaaGreatDoor.W31


namespace Go.Proofs.YtcfopdccdeeleaaGreatDoor.W37
open Go Go.Ev Go.Proofs Go.Proofs.YtcfopdccdeeleaaGreatDoor QU Y15 P1 P2 Y1 Y2 Y3 Y4 YF Y9 Y10 Y14 Y16 YW YX YZ YA YB PA YC YE YG YH Q4 Q5 Q6 Q7 Q8 Q9 QA QB PB PF QT W31
theorem eqN_refl:∀(m:Nat) (n:Nd),szN n≤m→eqN n n=true
 | 0,n,hm=>by obtain ⟨op,nm,i,ks,p⟩:=n;simp [szN] at hm
 |m+1,n,hm=>by
  rw [eqN_eq]
  simp only [decide_true,Bool.true_and]
  have:∀ l:List Nd,(∀ k,k∈l→k∈n.kids)→eqNs l l=true:=by
   intro l
   induction l with
   |nil=>intro _;rfl
   |cons k l ih =>
    intro hl
    simp only [eqNs,Bool.and_eq_true]
    exact ⟨eqN_refl m k (by have:=kid_lt (hl k (List.mem_cons_self ..));omega),ih fun x hx=>hl x (List.mem_cons_of_mem _ hx)⟩
  exact this n.kids fun k hk=>hk
theorem small0:Small nd0 := .mk _ (by simp [nd0,Nd.kids]) fun k hk=>absurd hk List.not_mem_nil
theorem wk0:WK (.agg [aI 0,aS ⟨#[]⟩,aI 0,.lst true [],aI 0]) (eNd nd0):=wk_node 0 ⟨#[]⟩ 0 0 (WK.lst fun r hr=>absurd hr List.not_mem_nil)
theorem inl_cases {ts:TS} {n:Nd}:((checkF ts [] n).1≠0∧inlineL ts n=(nd0,(checkF ts [] n).1))∨((checkF ts [] n).1=0∧anyN (fun n=>decide (n.op=47)) n=false∧inlineL ts n=(n,0)) ∨
  ((checkF ts [] n).1=0∧anyN (fun n=>decide (n.op=47)) n=true∧(inlineL ts n=(nd0,2)∨∃ x,inlineL ts n=(x,0))):=by
 unfold inlineL
 by_cases hc:(checkF ts [] n).1=0
 ·right
  rw [if_neg (by simpa using hc)]
  cases ha:anyN (fun n=>decide (n.op=47)) n with
  |false=>exact .inl ⟨hc,rfl,by rw [if_pos rfl]⟩
  |true =>
   refine .inr ⟨hc,rfl,?_⟩
   rw [if_neg (by simp)]
   cases ho:outI ts (takenI ts n) n with
   |error d=>exact .inl (by show (nd0,d.1)=_;rw [outI_err ho])
   |ok x=>exact .inr ⟨x,rfl⟩
 ·exact .inl ⟨hc,by rw [if_pos hc]⟩
theorem fits_valid {ts:TS} (h:fitsS ts=true):∀ p,p∈ts.preds→validB p.body=true:=by
 simp only [fitsS,limB,fldB,Bool.and_eq_true,decide_eq_true_eq,List.all_eq_true] at h
 obtain ⟨⟨⟨⟨h1,h2⟩,h3⟩,h4⟩,hf,hp,ha⟩:=h
 exact fun p hm=>(hp p hm).2
theorem fits_validF {ts:TS} (h:fitsS ts=true):∀ f,f∈ts.facts→validB f.2=true:=by
 simp only [fitsS,limB,fldB,Bool.and_eq_true,decide_eq_true_eq,List.all_eq_true] at h
 obtain ⟨⟨⟨⟨h1,h2⟩,h3⟩,h4⟩,hf,hp,ha⟩:=h
 exact fun p hm=>ha p hm
theorem inlResU (ts:TS) (hs:∀ x,x∈ts.sorts→x.1.size≤4611686018427387904) (n:Nd):SoundP Tryz.prog 8 [eTS ts,eNd n] (aB true):=by
 refine SoundP.of_sound (Sound.of_awp Tryz.call8 Tryz.func8 rfl (Nat.le_of_ble_eq_true (by kernel_rfl)) (by kernel_rfl) (pl:={}) ?_)
 simp [go_sem]
 refine CallStep.pure headU .nil ?_
 simp [go_sem]
 refine CallStep.pure (fitsSU ts) (.cons (.hf (hf_eTS ts)) .nil) ?_
 cases hf:fitsS ts with
 |false=>simp [go_sem];exact .hf _ (HF.sc _)
 |true =>
 obtain ⟨ok,wp,wfa⟩:=fits_ok hf hs
 have hv:=fits_valid hf
 simp [go_sem]
 refine CallStep.pure (validU n) (.cons (.hf (hf_eNd n)) .nil) ?_
 cases hn:validB n with
 |false=>simp [go_sem];exact .hf _ (HF.sc _)
 |true =>
 have wn:=wf_valid hn
 simp [go_sem]
 refine CallStep.pure (checkRU ts ok wp wfa (fun p hp=>(valid_iff.1 (hv p hp)).2.2.2) (fun f hf'=>(valid_iff.1 (fits_validF hf f hf')).2.2.2)) (.cons (.hf (hf_eTS ts)) .nil) ?_
 by_cases hk:checkL ts=[]
 case neg =>
  have hl:0<(checkL ts).length:=List.length_pos_iff.2 hk
  simp [go_sem,hl]
  exact .hf _ (HF.sc _)
 case pos =>
 have hl:(checkL ts).length=0:=by rw [hk];rfl
 have hF:=taken_len ok hv hn
 have hb:∀ p,p∈ts.preds→WfN p.body∧CallsOk ts p.body:=fun p hp=>⟨wp p hp,by
  obtain ⟨i,hi,rfl⟩:=List.mem_iff_getElem.1 hp
  obtain ⟨_,ko,hx⟩:=formK_ok (check_preds hk i hi)
  exact exam_calls (okCk_mk ok (by omega)) (szN ts.preds[i].body) _ _ _ _ (Nat.le_refl _) hx (wp _ hp)⟩
 have hcl:∀ n,WfN n→(checkF ts [] n).1=0→CallsOk ts n:=fun n wn hc=>by
  obtain ⟨_,ko,hx⟩:=formK_ok hc
  exact exam_calls (okCk_mk ok (Nat.le_refl _)) (szN n) _ _ _ _ (Nat.le_refl _) hx wn
 have cf:=fun n wn=>checkFormulaU ts ok wp n wn [] ⟨by simp,by simp⟩
 have ci:=inlineU ts ok hb n wn (hcl n wn) hF
 have wkf:∀ n,WKs [eTS ts,.lst true [],eNd n] [eTS ts,lPm [],eNd n]:=fun n => .cons (.hf (hf_eTS ts)) (.cons wkEnv0 (.cons (.hf (hf_eNd n)) .nil))
 have wki:∀ n,WKs [eTS ts,eNd n] [eTS ts,eNd n]:=fun n => .cons (.hf (hf_eTS ts)) (.cons (.hf (hf_eNd n)) .nil)
 simp [go_sem,hl]
 refine CallStep.pure (cf n wn) (wkf n) ?_
 simp [go_sem]
 refine CallStep.pure ci (wki n) ?_
 rcases inl_cases (ts:=ts) (n:=n) with ⟨hc,hi⟩ | ⟨hc,ha,hi⟩ | ⟨hc,ha,hi | ⟨x,hi⟩⟩
 ·have cs:=sameU (szN nd0) nd0 nd0 (Nat.le_refl _) small0
  rw [eqN_refl _ nd0 (Nat.le_refl _)] at cs
  rw [hi]
  simp [go_sem,hc,cNd_ones]
  refine CallStep.pure cs (.cons (.hf (hf_eNd nd0)) (.cons wk0 (.cons (.hf (HF.sc _)) .nil))) ?_
  simp [go_sem]
  exact .hf _ (HF.sc _)
 ·have cs:=sameU (szN n) n n (Nat.le_refl _) wn.small
  rw [eqN_refl _ n (Nat.le_refl _)] at cs
  have chc:=hasCallU (szN n) n (Nat.le_refl _) wn.small
  rw [ha] at chc
  rw [hi]
  simp [go_sem,hc,cNd_ones]
  refine CallStep.pure chc (.cons (.hf (hf_eNd _)) .nil) ?_
  simp [go_sem,hc,cNd_ones]
  refine CallStep.pure cs (.cons (.hf (hf_eNd n)) (.cons (.hf (hf_eNd n)) (.cons (.hf (HF.sc _)) .nil))) ?_
  simp [go_sem]
  exact .hf _ (HF.sc _)
 ·have cs:=sameU (szN nd0) nd0 nd0 (Nat.le_refl _) small0
  rw [eqN_refl _ nd0 (Nat.le_refl _)] at cs
  have chc:=hasCallU (szN n) n (Nat.le_refl _) wn.small
  rw [ha] at chc
  rw [hi]
  simp [go_sem,hc,cNd_ones]
  refine CallStep.pure chc (.cons (.hf (hf_eNd _)) .nil) ?_
  simp [go_sem,hc,cNd_ones]
  refine CallStep.pure cs (.cons (.hf (hf_eNd nd0)) (.cons wk0 (.cons (.hf (HF.sc _)) .nil))) ?_
  simp [go_sem]
  exact .hf _ (HF.sc _)
 ·have chc:=hasCallU (szN n) n (Nat.le_refl _) wn.small
  rw [ha] at chc
  obtain ⟨r1,r2,r3,r4⟩:=inline_result ok hv hk hn hc ha hi
  have wx:=wf_valid r1
  have hc2:(checkF ts [] x).1=0:=by rw [r3]
  have cv2:=validU x
  rw [r1] at cv2
  have chx:=hasCallU (szN x) x (Nat.le_refl _) wx.small
  rw [r2] at chx
  have cix:=inlineU ts ok hb x wx (hcl x wx) (taken_len ok hv r1)
  rw [r4] at cix
  have cfx:=cf x wx
  rw [r3] at cfx
  have cs:=sameU (szN x) x x (Nat.le_refl _) wx.small
  rw [eqN_refl _ x (Nat.le_refl _)] at cs
  rw [hi]
  simp [go_sem,hc,cNd_ones]
  refine CallStep.pure chc (.cons (.hf (hf_eNd _)) .nil) ?_
  simp [go_sem,hc,cNd_ones]
  refine CallStep.pure cv2 (.cons (.hf (hf_eNd _)) .nil) ?_
  simp [go_sem,hc,cNd_ones]
  refine CallStep.pure chx (.cons (.hf (hf_eNd _)) .nil) ?_
  simp [go_sem,hc,cNd_ones]
  refine CallStep.pure cix (wki x) ?_
  simp [go_sem,hc,cNd_ones]
  refine DrawGo.intro (by kernel_rfl) ?_
  simp [go_sem,hc,cNd_ones]
  refine CallStep.pure cfx (wkf x) ?_
  simp [go_sem,hc,cNd_ones]
  refine CallStep.pure cs (.cons (.hf (hf_eNd x)) (.cons (.hf (hf_eNd x)) (.cons (.hf (HF.sc _)) .nil))) ?_
  simp [go_sem]
  exact .hf _ (HF.sc _)
end Go.Proofs.YtcfopdccdeeleaaGreatDoor.W37


namespace Go.Proofs.YtcfopdccdeeleaaGreatDoor.DL
open Go Go.Ev Go.EvW Go.Proofs Go.Proofs.YtcfopdccdeeleaaGreatDoor Go.RowKit Go.ChangeShapes Go.WideShapes
theorem own:ownKnob Tryz.prog.godebug=none:=by kernel_rfl
theorem laid:laidOutB Tryz.prog=true:=by kernel_rfl
abbrev tabL : List (String × DataW Unit) := [("math/bits.deBruijn32tab", Rows.laid_math_bits_deBruijn32tab), ("math/bits.deBruijn64tab", Rows.laid_math_bits_deBruijn64tab), ("internal/strconv.uint64pow10", Rows.laid_internal_strconv_uint64pow10)]
def pows:List Int:=[1,10,100,1000,10000,100000,1000000,10000000,100000000,1000000000,10000000000,100000000000,1000000000000,10000000000000,100000000000000,1000000000000000,10000000000000000,100000000000000000,1000000000000000000,10000000000000000000]
theorem gPow : Tryz.prog.globalNamed "internal/strconv.uint64pow10" = some 0 := by kernel_rfl
theorem tPow:(Tryz.prog.globals[0]?).map (·.type)=some 256:=by kernel_rfl
theorem uPow:Tryz.prog.underlying 256=some (.array 20 214):=by kernel_rfl
theorem uU64:Tryz.prog.underlying 214=some (.int .u64):=by kernel_rfl
theorem tab_of {W:World} (h:laidMetH Tryz.prog tabL W):TabOk (·<W.heap.size) W.heap:=by
  rw [MakeChecks.laidMetH_plain _ _ _ (by kernel_rfl)] at h
  obtain ⟨ps,hl,_⟩:=h
  obtain ⟨g, t, cs, fuel, p, hg, ht, hv, hd⟩ := laid_vars hl ("internal/strconv.uint64pow10", Rows.laid_internal_strconv_uint64pow10) (by simp)
  obtain rfl:=Option.some.inj (gPow.symm.trans hg)
  obtain rfl:=Option.some.inj (tPow.symm.trans ht)
  have hc:cs.toList=pows.map fun i => .int .u64 i:=tab_ints uPow uU64 (by kernel_rfl) (by kernel_rfl) (ns:=pows) hd
  obtain ⟨e,fr,ho⟩:=var_obj gPow hv
  intro x hx
  have hx:x∈[(0,pows.map fun i=>Value.int .u64 i)]:=hx
  rw [List.mem_singleton] at hx
  subst hx
  refine ⟨(Array.getElem?_eq_some_iff.1 ho).1,e,fr,?_⟩
  show W.heap[0]?=_
  rw [ho]
  have:cs=(pows.map fun i=>Value.int .u64 i).toArray:=by rw [←hc]
  rw [this]
theorem door_met (os:Os) (args:Array Value):laidMetH Tryz.prog tabL ((World.doorLaid Tryz.prog 4000 os).forCall (fun _ _=>0) ⟨#[],args,[]⟩).memory:=
 laidMetH_of_parts3 (fuel:=8) (laidMet_of_run' 8 (by kernel_rfl) (by kernel_rfl)) (by kernel_rfl) (by kernel_rfl)
end Go.Proofs.YtcfopdccdeeleaaGreatDoor.DL
