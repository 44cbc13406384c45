/-
  Own library, part 7: an abstract reading of values and a calculus over it; contracts of functions; plain lemmas.
-/
import Derived.Test.YtcfopdccdeeleaaGreatDoorRows
import Derived.LaidMore
import Derived.MakeChecks
import Derived.WalkKit
import Derived.JoinedCond
import Derived.Test.YtcfopdccdeeleaaGreatDoorMf
set_option linter.unusedVariables false
set_option linter.unusedSimpArgs false
set_option maxRecDepth 100000


open List renaming getElem?_eq_some_iff→qv,getElem?_append_left→qz,mem_map→qE,getElem_mem→qJ,mem_cons→qK,getElem?_eq_getElem→qX,not_mem_nil→zb,mem_append→zh,mem_singleton→zj,getElem?_append_right→zl,length_append→zr,mem_cons_of_mem→zt,drop_eq_getElem_cons→zA,mem_cons_self→zG,getElem?_map→zM,append_assoc→zW,append_nil→ye,getElem?_eq_none→yx,take_of_length_le→y5,length_map→jn,take_length→jC,mem_filter→jL,getElem?_cons_succ→vI,flatMap_cons→u9,take_succ_eq_append_getElem→wF,length_pos_iff→Jn,drop_eq_nil_of_le→VL
open Nat renaming le_refl→qB,le_trans→yZ
open Int renaming le_refl→Qq
namespace Go.Proofs.YtcfopdccdeeleaaGreatDoor.QS
open Go Go.Ev Go.Proofs Go.Proofs.YtcfopdccdeeleaaGreatDoor YM YZ YF Y9 Y10 Y1 Y2 Y3 Y12 Y13 P1 P2 PA PB QD QE QF QG QH QI QJ QK QL QM QN PG QO QR
theorem VD (c:Ck) (op:Int) (nm:ByteArray):yO c op nm=(yn op||(decide (op=47)&&tpB c nm)):=rfl
theorem qhC {ns:Nat} {op n pos:Int} {l:List (Option Kd)} {e:Dg} (h:yB ns op n pos l = .error e):e=(42,pos):=by
 unfold yB at h
 repeat' split at h
 all_goals first
  | (cases h;done)
  | (cases h;rfl)
theorem wkTP (c:Ck) (nm:ByteArray):WKs [eTS c.ts,lBo c.timed,aI c.calls,aS nm] [eTS c.ts,lBo c.timed,aI c.calls,aS nm] := .cons (.hf (zq _)) (.cons (.hf (Jf _)) (.cons (.hf (HF.sc _)) (.cons (.hf (HF.sc _)) .nil)))
theorem wk1I (k:Int):WKs [aI k] [aI k] := .cons (.hf (HF.sc _)) .nil
theorem ZK (s:RS) (b:Bool):FL (.tup [eRS s,aB b]):=FL.tup fun x hx=>by
 rcases qK.1 hx with rfl | hx
 ·exact FL.agg fun c hc=>by
   rcases qK.1 hc with rfl | hc
   ·exact FL.sc _
   ·obtain ⟨j,_,rfl⟩:=qE.1 hc
    exact FL.sc _
 ·rw [zj] at hx;subst hx;exact FL.sc _
theorem qhD (c:Ck) (hc:okCk c) (s:Scp) (n:Nd) (ht:yO c n.op n.name=true):ExR c s true n:=by
 refine ⟨zR,?_,fun _ q h=>?_⟩
 case refine_2=>rw [vA,if_pos (by simp [ht])] at h;cases h
 have hx:exam c s true n = .error (46,n.pos):=by rw [vA,if_pos (by simp [ht])]
 rw [hx];rw [VD] at ht;refine qSQ Tryz.call46 Tryz.func46 rfl { mt:=[3] } ?_;have ct:=vL n.op;have cp:=uj c hc n.name;simp [go_sem];refine qc.pure ct (wk1I _) ?_;cases hT:yn n.op with
 |true =>
  simp [go_sem];refine qx.float [] [0,1,2,3] [(4,true),(5,false)] (by kernel_rfl) (by kernel_rfl) (by kernel_rfl) ?_;simp [go_sem,dgOf];exact .hf _ (yg zR (46,n.pos))
 |false =>
  rw [hT,Bool.false_or,Bool.and_eq_true] at ht;obtain ⟨h47,hB⟩:=ht;have h47:n.op=47:=by simpa using h47
  simp [go_sem,h47];refine qc.pure cp (wkTP c n.name) ?_;rw [hB];simp [go_sem];refine qx.float [] [0,1,2,3] [(4,true),(5,false)] (by kernel_rfl) (by kernel_rfl) (by kernel_rfl) ?_;simp [go_sem,dgOf];exact .hf _ (yg zR (46,n.pos))
theorem qhE (c:Ck) (hc:okCk c) (s:Scp) (hsl:s.length≤100000) (inn:Bool) (n:Nd) (h1:n.op=1):ExR c s inn n:=by
 have hx:exam c s inn n=jj c s n.name n.pos:=by
  rw [vA,VD,h1,show yn 1=false from rfl];simp
 refine ⟨resS (jj c s n.name n.pos),?_,fun _ q h=>by rw [hx] at h;rw [h];rfl⟩;rw [hx];have cn:=Wh c hc inn s n hsl;rw [qhB] at cn;generalize resS (jj c s n.name n.pos)=S at *
 generalize dgOf (jj c s n.name n.pos)=D at *
 refine qSQ Tryz.call46 Tryz.func46 rfl { mt:=[3] } ?_;have ct:=vL n.op;have cp:=uj c hc n.name;have hT:yn n.op=false:=by rw [h1];rfl
 rw [hT] at ct;have wn:=wkE c inn (envS s) n;cases inn
 case' true =>
  simp [go_sem];refine qc.pure ct (wk1I _) ?_
 all_goals
  simp [go_sem,h1];refine qc.pure cn wn ?_;simp [go_sem,qm,QE.tk,pc];rw [if_pos (qV _)];generalize hP:putCells _ 0 (aI S.1 :: hB S.2)=P;have hP2:P=aI S.1 :: hB S.2:=by rw [←hP];exact pc (aI 0) _ (fun _=>false) _
  subst hP2;clear hP;simp [go_sem,qm,QE.tk,pc];exact .hf _ (yg S D)
theorem qhF (c:Ck) (hc:okCk c) (s:Scp) (hs:ScOk c.ts.sorts.length s) (inn:Bool) (n:Nd) (hw:WfN n) (h47:n.op=47) (ht:(inn&&yO c n.op n.name)=false) (ih:∀ k,k∈n.kids→ExR c s true k):ExR c s inn n:=by
 have hx:exam c s inn n=ub c s n:=by
  rw [vA,ht,if_neg (by simp),if_neg (by omega),if_pos h47];rfl
 have cc:=qg7 c hc s hs n hw h47 ih inn;refine ⟨zR,?_,fun hk=>by rw [h47] at hk;exact absurd hk (by decide)⟩;rw [hx];generalize dgOf (ub c s n)=D at *
 refine qSQ Tryz.call46 Tryz.func46 rfl { mt:=[3] } ?_;have ct:=vL n.op;have cp:=uj c hc n.name;have hT:yn n.op=false:=by rw [h47];rfl
 rw [hT] at ct;have wn:=wkE c inn (envS s) n;cases inn
 case' true =>
  rw [Bool.true_and,VD,hT,h47] at ht;have hB:tpB c n.name=false:=by simpa using ht
  rw [hB] at cp;simp [go_sem];refine qc.pure ct (wk1I _) ?_;simp [go_sem,h47];refine qc.pure cp (wkTP c n.name) ?_
 all_goals
  simp [go_sem,h47];refine qc.pure cc wn ?_;simp [go_sem];exact .hf _ (yg zR D)
theorem qhG (c:Ck) (hc:okCk c) (s:Scp) (hs:ScOk c.ts.sorts.length s) (hsl:s.length≤90000) (inn:Bool) (n:Nd) (hw:WfN n) (hb:n.op=15∨n.op=45∨n.op=46) (ht:(inn&&yO c n.op n.name)=false) (ih:∀ k,k∈n.kids→∀ s',ScOk c.ts.sorts.length s'→s'.length≤s.length+1→∀ inn,ExR c s' inn k):ExR c s inn n:=by
 have hx:exam c s inn n=yU c s (inn||decide (n.op=15)) n.name n.pos n.kids:=by
  rw [vA,ht,if_neg (by simp),if_neg (by omega),if_neg (by omega),if_pos hb]
 obtain ⟨a,g,hks,hka⟩:=W8 hw hb;have cb:=qg9 c hc s hs hsl n a g hw hb hks hka inn (ih a (by rw [hks];simp) s hs (by omega) _) (fun k hk har=>ih g (by rw [hks];simp) _ (fun v hv=>by
  rcases qK.1 hv with rfl | hv
  ·exact ⟨hk,har⟩
  ·exact hs v hv) (by simp) _)
 refine ⟨Jj (exam c s (inn||decide (n.op=15)) a),?_,fun _ q h=>?_⟩
 case refine_2 =>
  rw [hx,hks] at h;simp only [yU] at h;split at h
  ·cases h
  ·cases h
  ·rename_i k hk
   split at h
   ·rename_i har
    split at h
    ·cases h
    ·cases h
     rw [hk];exact if_pos har
   ·cases h
 rw [hx];generalize Jj (exam c s (inn||decide (n.op=15)) a)=S at *
 generalize dgOf (yU c s (inn||decide (n.op=15)) n.name n.pos n.kids)=D at *
 refine qSQ Tryz.call46 Tryz.func46 rfl { mt:=[3] } ?_;have ct:=vL n.op;have cp:=uj c hc n.name;have h47:¬n.op=47:=by omega
 have hT:yn n.op=false:=by unfold yn;rcases hb with h | h | h<;>rw [h]<;>decide
 rw [hT] at ct;have wn:=wkE c inn (envS s) n;rcases hb with h | h | h
 all_goals
  rw [h] at ct;cases inn
 all_goals
  simp [go_sem,h]
  try (refine qc.pure ct (wk1I _) ?_)
  try simp [go_sem,h]
  refine qc.pure cb wn ?_;simp [go_sem,qm,QE.tk,pc];rw [if_pos (qV _)];generalize hP:putCells _ 0 (aI S.1 :: hB S.2)=P;have hP2:P=aI S.1 :: hB S.2:=by rw [←hP];exact pc (aI 0) _ (fun _=>false) _
  subst hP2;clear hP;simp [go_sem,qm,QE.tk,pc];exact .hf _ (yg S D)
def seqL (X:Nd→Res):List Nd→Except Dg (List (Option Kd))
 | [] => .ok []
 |k :: ks=>match X k with
  | .error e => .error e
  | .ok a=>match seqL X ks with
   | .error e => .error e
   | .ok l => .ok (a :: l)
theorem gL (c:Ck) (s:Scp) (B:Bool):∀ ks:List Nd,zB c s B ks=seqL (exam c s B) ks
 | []=>by simp only [zB,seqL]
 |k :: ks=>by simp only [zB,seqL];rw [gL c s B ks];cases exam c s B k with
  |error e=>rfl
  |ok a=>cases seqL (exam c s B) ks<;>rfl
theorem wE {α:Type} {l:List α} {a b c:α} (h0:l[0]?=some a) (h1:l[1]?=some b) (h2:l[2]?=some c):∃ r,l=a :: b :: c :: r:=by
 match l,h0,h1,h2 with
 |_ :: _ :: _ :: r,h0,h1,h2 =>
  simp at h0 h1 h2;exact ⟨r,by rw [h0,h1,h2]⟩
theorem ZL {n:Nd} (hw:WfN n) (h:(n.op=5∨n.op=11∨n.op=12∨n.op=13)∨(n.op=6∨n.op=14∨n.op=7∨n.op=8∨n.op=32∨n.op=33∨n.op=9∨n.op=10)):∀ x,x∈n.kids→kd x.op=101:=by
 have hs:=hw.shape;intro x hx;have hm:kd x.op∈n.kids.map fun k=>kd k.op:=qE.2 ⟨x,hx,rfl⟩
 rcases h with h | h
 ·unfold shp at hs
  rw [if_neg (by omega),if_pos (by omega)] at hs;simp only [Option.some.injEq] at hs;rw [←hs] at hm;simpa using hm
 ·unfold shp at hs
  rw [if_neg (by omega),if_neg (by omega),if_pos (by omega)] at hs;simp only [Option.some.injEq] at hs;rw [←hs] at hm;simpa using hm
theorem qhH (c:Ck) (hc:okCk c) (s:Scp) (n:Nd) (B:Bool) (X:Nd→Res) (S:RS) (D:Dg) (h1:¬n.op=1) (h47:¬n.op=47) (hb:¬(n.op=15∨n.op=45∨n.op=46)) (hw:WfN n) (hkl:n.kids.length≤401) (hT:yn n.op=false) (h12:n.op=12) (h13:¬n.op=13) (hBt:B=true)
  (hX1:∀ k,k∈n.kids→∃ S,qt Tryz.prog 46 [eVw c B,lVr (envS s),eNd k] (.tup [eRS S,eDg (dgOf (X k))])∧(kd k.op=101→∀ q,X k = .ok (some q)→S=qA q))
  (hXok:∀ k a,k∈n.kids→X k = .ok a→kd k.op=101→∃ q,a=some q∧okKd c.ts.sorts.length q)
  (hXerr:∀ k e,X k = .error e→40≤e.1)
  (hfe:∀ e,seqL X n.kids = .error e→S=zR∧D=e)
  (hfo:∀ l,seqL X n.kids = .ok l→∃ S' b,(∀ L:List RS,((n.op=5∨n.op=11∨n.op=12∨n.op=13)∨(n.op=6∨n.op=14∨n.op=7∨n.op=8∨n.op=32∨n.op=33∨n.op=9∨n.op=10)→L=l.map setO)→prC c.ts n L S' b)∧(b=true→S=S'∧D=(0,0))∧(b=false→S=zR∧D=(42,n.pos))) :
  qt Tryz.prog 46 [eVw c true,lVr (envS s),eNd n] (.tup [eRS S,eDg D]):=by
 simp only [not_or] at hb;obtain ⟨b1,b2,b3⟩:=hb;refine qSQ Tryz.call46 Tryz.func46 rfl { mt:=[3] } ?_;have ct:=vL n.op;have cp:=uj c hc n.name;rw [hT] at ct;simp [go_sem];refine qc.pure ct (wk1I _) ?_;simp [go_sem,h1,h47,b1,b2,b3];simp [go_sem,h12];refine qD.upK n.kids.length (fun k st=>∃(acc:List (Option Kd)) (L:List RS),acc.length=k∧L.length=k∧st.tm 1=lVr (envS s)∧st.tm 3 = .ptr 0 0∧st.tm 5 = .ip (cNd n)∧st.tm 6 = .ptr 1 0∧st.tm 7 = .ptr 2 0∧st.tm 9=aI k∧st.mu[0]?=some (.arr (cVw c B))∧st.mu[1]?=some (.arr (aI 0 :: hB fun _=>false))∧st.mu[2]?=some (.arr [aI 0,aI 0])∧OwnF 3 st.mu 65 (st.tm 8) (L.map cRS)∧(∀(i:Nat) x,n.kids[i]?=some x→i<k→kd x.op=101→∃ q,acc[i]?=some (some q)∧L[i]?=some (qA q))∧seqL X n.kids=(match seqL X (n.kids.drop k) with | .error e => .error e | .ok l => .ok (acc++l))) ?_ ?_
 ·refine ⟨[],[],rfl,rfl,by simp [go_sem],by simp [go_sem],by simp [go_sem],by simp [go_sem],by simp [go_sem],by simp [go_sem],by rw [hBt];simp [go_sem],by simp [go_sem];rfl,by simp [go_sem],by simp [go_sem];exact OwnF.nil (by simp),fun i x _ h=>absurd h (by omega),?_⟩
  simp only [List.drop_zero,List.nil_append];cases seqL X n.kids<;>rfl
 rintro k st hk ⟨acc,L,hal,hll,e1,e3,e5,e6,e7,e9,m0,m1,m2,ho,hrel,hE⟩;generalize h8:st.tm 8=av at *
 by_cases hlt:k<n.kids.length
 ·have w1:IntKind.i64.wrap ((k:Int)+1)=(k:Int)+1:=qy (by omega) (by omega)
  obtain ⟨Sk,ck,hk1⟩:=hX1 n.kids[k] (qJ hlt);rw [zA hlt] at hE;simp only [seqL] at hE;simp [go_sem,e1,e3,e5,e6,e7,e9,h8,hlt,qr];refine qx.seg [0,1,2,3,4,5,6,7,8,9,10,11,12,13,14] [(0,0,[]),(1,0,[]),(2,0,[]),(3,0,[]),(4,0,[]),(5,0,[]),(6,0,[]),(7,1,[]),(8,0,[]),(9,0,[]),(10,0,[]),(11,2,[0,3,6]),(12,2,[0,3,6]),(13,1,[]),(14,1,[])] (by kernel_rfl) (by kernel_rfl) (by simp [go_sem]) ?_;have hml:2<st.mu.length:=(qv.1 m2).1;have hpush:∀(l:List Cell) (i:Nat),i<st.mu.length→(st.mu++l)[i]?=st.mu[i]?:=fun l i hi=>qz hi
  have p0:=fun l=>(hpush l 0 (by omega)).trans m0
  have p1:=fun l=>(hpush l 1 (by omega)).trans m1
  have p2:=fun l=>(hpush l 2 (by omega)).trans m2
  have g0:=(qv.1 m0).2;have g1:=(qv.1 m1).2;have g2:=(qv.1 m2).2;have hl0:0<st.mu.length:=by omega
  have hl1:1<st.mu.length:=by omega
  simp [go_sem,e1,e3,e5,e6,e7,e9,h8,hlt,qr,m0];refine qc.pure ck (wkE c _ _ _) ?_;cases hx:X n.kids[k] with
  |error e =>
   have he:=hXerr _ _ hx;have he0:¬e.1=0:=by omega
   rw [hx] at hE;have hE:seqL X n.kids = .error e:=hE;obtain ⟨hS0,hD0⟩:=hfe e hE;rw [hS0,hD0];simp [go_sem,e1,e3,e5,e6,e7,e9,h8,hlt,qr,m0,g0,p0,hl0,qm,QE.tk,pc,he0,dgOf];rw [if_pos (qV _)];generalize hP:putCells _ 0 (cRS Sk)=P;have hP2:P=cRS Sk:=by rw [←hP];exact pc (aI 0) _ (fun _=>false) _
   subst hP2;clear hP;simp [go_sem,e1,e3,e5,e6,e7,e9,h8,hlt,qr,m0,g0,p0,hl0,qm,QE.tk,pc,he0,dgOf];refine qx.seg [0,1,2,3] [(0,0,[]),(1,0,[]),(2,1,[1]),(3,1,[])] (by kernel_rfl) (by kernel_rfl) (by simp [go_sem]) ?_;simp [go_sem,e1,e3,e5,e6,e7,e9,h8,hlt,qr,m0,g0,p0,hl0,qm,QE.tk,pc,he0,dgOf,p1,p2,g1,g2,hl1,hml];exact .hf _ (yg zR e)
  |ok a =>
   rw [hx] at hE;simp only at hE;simp [go_sem,e1,e3,e5,e6,e7,e9,h8,hlt,qr,m0,g0,p0,hl0,qm,QE.tk,pc,dgOf];rw [if_pos (qV _)];generalize hP:putCells _ 0 (cRS Sk)=P;have hP2:P=cRS Sk:=by rw [←hP];exact pc (aI 0) _ (fun _=>false) _
   subst hP2;clear hP;simp [go_sem,e1,e3,e5,e6,e7,e9,h8,hlt,qr,m0,g0,p0,hl0,qm,QE.tk,pc,dgOf];rw [if_pos (qV _)];simp [go_sem,e1,e3,e5,e6,e7,e9,h8,hlt];refine ZJ (lo:=3) (xs:=L) (ys:=[Sk]) ⟨by simpa using jW (jW ho.1 _) _,ho.2.1,by have:=ho.2.2;simp;omega⟩ (by simp [zf]) (by simp;omega) fun av' m' ho' hm'=>?_
   simp [go_sem,e1,e3,e5,e6,e7,e9,h8,hlt,w1];refine Keep.mk' ⟨acc++[a],L++[Sk],by simp [hal],by simp [hll],by simp [go_sem,e1],by simp [go_sem,e3],by simp [go_sem,e5],by simp [go_sem,e6],by simp [go_sem,e7],by simp [go_sem],?_,?_,?_,by simpa [go_sem] using ho',fun i x hi hik hkd=>?_,?_⟩
   ·simp only [qT];exact (hm' 0 (by omega)).trans (p0 _)
   ·simp only [qT];exact (hm' 1 (by omega)).trans (p1 _)
   ·simp only [qT];exact (hm' 2 (by omega)).trans (p2 _)
   ·by_cases hik2:i=k
    ·subst hik2
     rw [qX hlt] at hi;cases hi;obtain ⟨q,rfl,_⟩:=hXok _ a (qJ hlt) hx hkd;refine ⟨q,?_,?_⟩
     ·rw [zl (by omega),hal];simp
     ·rw [zl (by omega),hll];simp [hk1 hkd q hx]
    ·obtain ⟨q,q1,q2⟩:=hrel i x hi (by omega) hkd
     exact ⟨q,by rw [qz (by omega)];exact q1,by rw [qz (by omega)];exact q2⟩
   ·rw [hE]
    cases seqL X (n.kids.drop (k+1)) with
    |error e=>rfl
    |ok l=>simp
 ·have hkl':k=n.kids.length:=by omega
  subst hkl';rw [List.drop_length] at hE;have hE:seqL X n.kids = .ok acc:=by rw [hE];simp only [seqL,ye]
  obtain ⟨S',b,q1,q2,q3⟩:=hfo acc hE;have hL:((n.op=5∨n.op=11∨n.op=12∨n.op=13)∨(n.op=6∨n.op=14∨n.op=7∨n.op=8∨n.op=32∨n.op=33∨n.op=9∨n.op=10))→L=acc.map setO:=fun h=>by
   have hkd:∀ x,x∈n.kids→kd x.op=101:=fun x hx=>ZL hw h x hx
   refine List.ext_getElem? fun i=>?_
   by_cases hi:i<n.kids.length
   ·obtain ⟨q,e1,e2⟩:=hrel i n.kids[i] (by simp [hi]) hi (hkd _ (qJ hi))
    rw [e2,zM,e1];rfl
   ·rw [yx (by omega),yx (by simp;omega)]
  have hp:=q1 L hL;unfold prC at hp;have hml:2<st.mu.length:=(qv.1 m2).1;have hpush:∀(l:List Cell) (i:Nat),i<st.mu.length→(st.mu++l)[i]?=st.mu[i]?:=fun l i hi=>qz hi
  obtain ⟨rr,hrr⟩:=wE m0 m1 m2;simp [go_sem,e1,e3,e5,e6,e7,e9,h8,qr,m0];refine qc.lend (args':=[eTS c.ts,eNd n,lRS L]) hp ⟨.hf _ (zq _),.hf _ (qO n),rdRS ho,trivial⟩ (ZK S' b) ?_;have hrl:st.mu.length=rr.length+3:=by rw [hrr];rfl
  clear m0 m1 m2 hpush ho;simp [go_sem,e1,e3,e5,e6,e7,e9,h8,qr,hrr,qm,QE.tk,pc];rw [if_pos (qV _)];generalize hP:putCells _ 0 (cRS S')=P;have hP2:P=cRS S':=by rw [←hP];exact pc (aI 0) _ (fun _=>false) _
  subst hP2;clear hP;cases b with
  |true =>
   obtain ⟨rfl,rfl⟩:=q2 rfl;simp [go_sem,e1,e3,e5,e6,e7,e9,h8,hrr,qm,QE.tk,pc];rw [if_pos (qV _)];simp [go_sem,e1,e3,e5,e6,e7,e9,h8,hrr,qm,QE.tk,pc];exact .hf _ (yg S (0,0))
  |false =>
   obtain ⟨rfl,rfl⟩:=q3 rfl;simp [go_sem,e1,e3,e5,e6,e7,e9,h8,hrr,qm,QE.tk,pc];refine qx.seg [0,1,2,3,4,5] [(0,0,[]),(1,0,[]),(2,0,[]),(3,0,[]),(4,1,[2]),(5,1,[])] (by kernel_rfl) (by kernel_rfl) (by simp [go_sem]) ?_;simp [go_sem,e1,e3,e5,e6,e7,e9,h8,hrr,qm,QE.tk,pc];exact .hf _ (yg zR (42,n.pos))
theorem qhI (c:Ck) (hc:okCk c) (s:Scp) (n:Nd) (B:Bool) (X:Nd→Res) (S:RS) (D:Dg) (h1:¬n.op=1) (h47:¬n.op=47) (hb:¬(n.op=15∨n.op=45∨n.op=46)) (hw:WfN n) (hkl:n.kids.length≤401) (hT:yn n.op=false) (h12:¬n.op=12) (h13:n.op=13) (hBt:B=true)
  (hX1:∀ k,k∈n.kids→∃ S,qt Tryz.prog 46 [eVw c B,lVr (envS s),eNd k] (.tup [eRS S,eDg (dgOf (X k))])∧(kd k.op=101→∀ q,X k = .ok (some q)→S=qA q))
  (hXok:∀ k a,k∈n.kids→X k = .ok a→kd k.op=101→∃ q,a=some q∧okKd c.ts.sorts.length q)
  (hXerr:∀ k e,X k = .error e→40≤e.1)
  (hfe:∀ e,seqL X n.kids = .error e→S=zR∧D=e)
  (hfo:∀ l,seqL X n.kids = .ok l→∃ S' b,(∀ L:List RS,((n.op=5∨n.op=11∨n.op=12∨n.op=13)∨(n.op=6∨n.op=14∨n.op=7∨n.op=8∨n.op=32∨n.op=33∨n.op=9∨n.op=10)→L=l.map setO)→prC c.ts n L S' b)∧(b=true→S=S'∧D=(0,0))∧(b=false→S=zR∧D=(42,n.pos))) :
  qt Tryz.prog 46 [eVw c true,lVr (envS s),eNd n] (.tup [eRS S,eDg D]):=by
 simp only [not_or] at hb;obtain ⟨b1,b2,b3⟩:=hb;refine qSQ Tryz.call46 Tryz.func46 rfl { mt:=[3] } ?_;have ct:=vL n.op;have cp:=uj c hc n.name;rw [hT] at ct;simp [go_sem];refine qc.pure ct (wk1I _) ?_;simp [go_sem,h1,h47,b1,b2,b3];simp [go_sem,h12,h13];refine qD.upK n.kids.length (fun k st=>∃(acc:List (Option Kd)) (L:List RS),acc.length=k∧L.length=k∧st.tm 1=lVr (envS s)∧st.tm 3 = .ptr 0 0∧st.tm 5 = .ip (cNd n)∧st.tm 6 = .ptr 1 0∧st.tm 7 = .ptr 2 0∧st.tm 9=aI k∧st.mu[0]?=some (.arr (cVw c B))∧st.mu[1]?=some (.arr (aI 0 :: hB fun _=>false))∧st.mu[2]?=some (.arr [aI 0,aI 0])∧OwnF 3 st.mu 65 (st.tm 8) (L.map cRS)∧(∀(i:Nat) x,n.kids[i]?=some x→i<k→kd x.op=101→∃ q,acc[i]?=some (some q)∧L[i]?=some (qA q))∧seqL X n.kids=(match seqL X (n.kids.drop k) with | .error e => .error e | .ok l => .ok (acc++l))) ?_ ?_
 ·refine ⟨[],[],rfl,rfl,by simp [go_sem],by simp [go_sem],by simp [go_sem],by simp [go_sem],by simp [go_sem],by simp [go_sem],by rw [hBt];simp [go_sem],by simp [go_sem];rfl,by simp [go_sem],by simp [go_sem];exact OwnF.nil (by simp),fun i x _ h=>absurd h (by omega),?_⟩
  simp only [List.drop_zero,List.nil_append];cases seqL X n.kids<;>rfl
 rintro k st hk ⟨acc,L,hal,hll,e1,e3,e5,e6,e7,e9,m0,m1,m2,ho,hrel,hE⟩;generalize h8:st.tm 8=av at *
 by_cases hlt:k<n.kids.length
 ·have w1:IntKind.i64.wrap ((k:Int)+1)=(k:Int)+1:=qy (by omega) (by omega)
  obtain ⟨Sk,ck,hk1⟩:=hX1 n.kids[k] (qJ hlt);rw [zA hlt] at hE;simp only [seqL] at hE;simp [go_sem,e1,e3,e5,e6,e7,e9,h8,hlt,qr];refine qx.seg [0,1,2,3,4,5,6,7,8,9,10,11,12,13,14] [(0,0,[]),(1,0,[]),(2,0,[]),(3,0,[]),(4,0,[]),(5,0,[]),(6,0,[]),(7,1,[]),(8,0,[]),(9,0,[]),(10,0,[]),(11,2,[0,3,6]),(12,2,[0,3,6]),(13,1,[]),(14,1,[])] (by kernel_rfl) (by kernel_rfl) (by simp [go_sem]) ?_;have hml:2<st.mu.length:=(qv.1 m2).1;have hpush:∀(l:List Cell) (i:Nat),i<st.mu.length→(st.mu++l)[i]?=st.mu[i]?:=fun l i hi=>qz hi
  have p0:=fun l=>(hpush l 0 (by omega)).trans m0
  have p1:=fun l=>(hpush l 1 (by omega)).trans m1
  have p2:=fun l=>(hpush l 2 (by omega)).trans m2
  have g0:=(qv.1 m0).2;have g1:=(qv.1 m1).2;have g2:=(qv.1 m2).2;have hl0:0<st.mu.length:=by omega
  have hl1:1<st.mu.length:=by omega
  simp [go_sem,e1,e3,e5,e6,e7,e9,h8,hlt,qr,m0];refine qc.pure ck (wkE c _ _ _) ?_;cases hx:X n.kids[k] with
  |error e =>
   have he:=hXerr _ _ hx;have he0:¬e.1=0:=by omega
   rw [hx] at hE;have hE:seqL X n.kids = .error e:=hE;obtain ⟨hS0,hD0⟩:=hfe e hE;rw [hS0,hD0];simp [go_sem,e1,e3,e5,e6,e7,e9,h8,hlt,qr,m0,g0,p0,hl0,qm,QE.tk,pc,he0,dgOf];rw [if_pos (qV _)];generalize hP:putCells _ 0 (cRS Sk)=P;have hP2:P=cRS Sk:=by rw [←hP];exact pc (aI 0) _ (fun _=>false) _
   subst hP2;clear hP;simp [go_sem,e1,e3,e5,e6,e7,e9,h8,hlt,qr,m0,g0,p0,hl0,qm,QE.tk,pc,he0,dgOf];refine qx.seg [0,1,2,3] [(0,0,[]),(1,0,[]),(2,1,[1]),(3,1,[])] (by kernel_rfl) (by kernel_rfl) (by simp [go_sem]) ?_;simp [go_sem,e1,e3,e5,e6,e7,e9,h8,hlt,qr,m0,g0,p0,hl0,qm,QE.tk,pc,he0,dgOf,p1,p2,g1,g2,hl1,hml];exact .hf _ (yg zR e)
  |ok a =>
   rw [hx] at hE;simp only at hE;simp [go_sem,e1,e3,e5,e6,e7,e9,h8,hlt,qr,m0,g0,p0,hl0,qm,QE.tk,pc,dgOf];rw [if_pos (qV _)];generalize hP:putCells _ 0 (cRS Sk)=P;have hP2:P=cRS Sk:=by rw [←hP];exact pc (aI 0) _ (fun _=>false) _
   subst hP2;clear hP;simp [go_sem,e1,e3,e5,e6,e7,e9,h8,hlt,qr,m0,g0,p0,hl0,qm,QE.tk,pc,dgOf];rw [if_pos (qV _)];simp [go_sem,e1,e3,e5,e6,e7,e9,h8,hlt];refine ZJ (lo:=3) (xs:=L) (ys:=[Sk]) ⟨by simpa using jW (jW ho.1 _) _,ho.2.1,by have:=ho.2.2;simp;omega⟩ (by simp [zf]) (by simp;omega) fun av' m' ho' hm'=>?_
   simp [go_sem,e1,e3,e5,e6,e7,e9,h8,hlt,w1];refine Keep.mk' ⟨acc++[a],L++[Sk],by simp [hal],by simp [hll],by simp [go_sem,e1],by simp [go_sem,e3],by simp [go_sem,e5],by simp [go_sem,e6],by simp [go_sem,e7],by simp [go_sem],?_,?_,?_,by simpa [go_sem] using ho',fun i x hi hik hkd=>?_,?_⟩
   ·simp only [qT];exact (hm' 0 (by omega)).trans (p0 _)
   ·simp only [qT];exact (hm' 1 (by omega)).trans (p1 _)
   ·simp only [qT];exact (hm' 2 (by omega)).trans (p2 _)
   ·by_cases hik2:i=k
    ·subst hik2
     rw [qX hlt] at hi;cases hi;obtain ⟨q,rfl,_⟩:=hXok _ a (qJ hlt) hx hkd;refine ⟨q,?_,?_⟩
     ·rw [zl (by omega),hal];simp
     ·rw [zl (by omega),hll];simp [hk1 hkd q hx]
    ·obtain ⟨q,q1,q2⟩:=hrel i x hi (by omega) hkd
     exact ⟨q,by rw [qz (by omega)];exact q1,by rw [qz (by omega)];exact q2⟩
   ·rw [hE]
    cases seqL X (n.kids.drop (k+1)) with
    |error e=>rfl
    |ok l=>simp
 ·have hkl':k=n.kids.length:=by omega
  subst hkl';rw [List.drop_length] at hE;have hE:seqL X n.kids = .ok acc:=by rw [hE];simp only [seqL,ye]
  obtain ⟨S',b,q1,q2,q3⟩:=hfo acc hE;have hL:((n.op=5∨n.op=11∨n.op=12∨n.op=13)∨(n.op=6∨n.op=14∨n.op=7∨n.op=8∨n.op=32∨n.op=33∨n.op=9∨n.op=10))→L=acc.map setO:=fun h=>by
   have hkd:∀ x,x∈n.kids→kd x.op=101:=fun x hx=>ZL hw h x hx
   refine List.ext_getElem? fun i=>?_
   by_cases hi:i<n.kids.length
   ·obtain ⟨q,e1,e2⟩:=hrel i n.kids[i] (by simp [hi]) hi (hkd _ (qJ hi))
    rw [e2,zM,e1];rfl
   ·rw [yx (by omega),yx (by simp;omega)]
  have hp:=q1 L hL;unfold prC at hp;have hml:2<st.mu.length:=(qv.1 m2).1;have hpush:∀(l:List Cell) (i:Nat),i<st.mu.length→(st.mu++l)[i]?=st.mu[i]?:=fun l i hi=>qz hi
  obtain ⟨rr,hrr⟩:=wE m0 m1 m2;simp [go_sem,e1,e3,e5,e6,e7,e9,h8,qr,m0];refine qc.lend (args':=[eTS c.ts,eNd n,lRS L]) hp ⟨.hf _ (zq _),.hf _ (qO n),rdRS ho,trivial⟩ (ZK S' b) ?_;have hrl:st.mu.length=rr.length+3:=by rw [hrr];rfl
  clear m0 m1 m2 hpush ho;simp [go_sem,e1,e3,e5,e6,e7,e9,h8,qr,hrr,qm,QE.tk,pc];rw [if_pos (qV _)];generalize hP:putCells _ 0 (cRS S')=P;have hP2:P=cRS S':=by rw [←hP];exact pc (aI 0) _ (fun _=>false) _
  subst hP2;clear hP;cases b with
  |true =>
   obtain ⟨rfl,rfl⟩:=q2 rfl;simp [go_sem,e1,e3,e5,e6,e7,e9,h8,hrr,qm,QE.tk,pc];rw [if_pos (qV _)];simp [go_sem,e1,e3,e5,e6,e7,e9,h8,hrr,qm,QE.tk,pc];exact .hf _ (yg S (0,0))
  |false =>
   obtain ⟨rfl,rfl⟩:=q3 rfl;simp [go_sem,e1,e3,e5,e6,e7,e9,h8,hrr,qm,QE.tk,pc];refine qx.seg [0,1,2,3,4,5] [(0,0,[]),(1,0,[]),(2,0,[]),(3,0,[]),(4,1,[2]),(5,1,[])] (by kernel_rfl) (by kernel_rfl) (by simp [go_sem]) ?_;simp [go_sem,e1,e3,e5,e6,e7,e9,h8,hrr,qm,QE.tk,pc];exact .hf _ (yg zR (42,n.pos))
theorem qhJ (c:Ck) (hc:okCk c) (s:Scp) (n:Nd) (B:Bool) (X:Nd→Res) (S:RS) (D:Dg) (h1:¬n.op=1) (h47:¬n.op=47) (hb:¬(n.op=15∨n.op=45∨n.op=46)) (hw:WfN n) (hkl:n.kids.length≤401) (hT:yn n.op=false) (h12:¬n.op=12) (h13:¬n.op=13) (hBt:B=true)
  (hX1:∀ k,k∈n.kids→∃ S,qt Tryz.prog 46 [eVw c B,lVr (envS s),eNd k] (.tup [eRS S,eDg (dgOf (X k))])∧(kd k.op=101→∀ q,X k = .ok (some q)→S=qA q))
  (hXok:∀ k a,k∈n.kids→X k = .ok a→kd k.op=101→∃ q,a=some q∧okKd c.ts.sorts.length q)
  (hXerr:∀ k e,X k = .error e→40≤e.1)
  (hfe:∀ e,seqL X n.kids = .error e→S=zR∧D=e)
  (hfo:∀ l,seqL X n.kids = .ok l→∃ S' b,(∀ L:List RS,((n.op=5∨n.op=11∨n.op=12∨n.op=13)∨(n.op=6∨n.op=14∨n.op=7∨n.op=8∨n.op=32∨n.op=33∨n.op=9∨n.op=10)→L=l.map setO)→prC c.ts n L S' b)∧(b=true→S=S'∧D=(0,0))∧(b=false→S=zR∧D=(42,n.pos))) :
  qt Tryz.prog 46 [eVw c true,lVr (envS s),eNd n] (.tup [eRS S,eDg D]):=by
 simp only [not_or] at hb;obtain ⟨b1,b2,b3⟩:=hb;refine qSQ Tryz.call46 Tryz.func46 rfl { mt:=[3] } ?_;have ct:=vL n.op;have cp:=uj c hc n.name;rw [hT] at ct;simp [go_sem];refine qc.pure ct (wk1I _) ?_;simp [go_sem,h1,h47,b1,b2,b3];simp [go_sem,h12,h13];refine qD.upK n.kids.length (fun k st=>∃(acc:List (Option Kd)) (L:List RS),acc.length=k∧L.length=k∧st.tm 1=lVr (envS s)∧st.tm 3 = .ptr 0 0∧st.tm 5 = .ip (cNd n)∧st.tm 6 = .ptr 1 0∧st.tm 7 = .ptr 2 0∧st.tm 9=aI k∧st.mu[0]?=some (.arr (cVw c B))∧st.mu[1]?=some (.arr (aI 0 :: hB fun _=>false))∧st.mu[2]?=some (.arr [aI 0,aI 0])∧OwnF 3 st.mu 65 (st.tm 8) (L.map cRS)∧(∀(i:Nat) x,n.kids[i]?=some x→i<k→kd x.op=101→∃ q,acc[i]?=some (some q)∧L[i]?=some (qA q))∧seqL X n.kids=(match seqL X (n.kids.drop k) with | .error e => .error e | .ok l => .ok (acc++l))) ?_ ?_
 ·refine ⟨[],[],rfl,rfl,by simp [go_sem],by simp [go_sem],by simp [go_sem],by simp [go_sem],by simp [go_sem],by simp [go_sem],by rw [hBt];simp [go_sem],by simp [go_sem];rfl,by simp [go_sem],by simp [go_sem];exact OwnF.nil (by simp),fun i x _ h=>absurd h (by omega),?_⟩
  simp only [List.drop_zero,List.nil_append];cases seqL X n.kids<;>rfl
 rintro k st hk ⟨acc,L,hal,hll,e1,e3,e5,e6,e7,e9,m0,m1,m2,ho,hrel,hE⟩;generalize h8:st.tm 8=av at *
 by_cases hlt:k<n.kids.length
 ·have w1:IntKind.i64.wrap ((k:Int)+1)=(k:Int)+1:=qy (by omega) (by omega)
  obtain ⟨Sk,ck,hk1⟩:=hX1 n.kids[k] (qJ hlt);rw [zA hlt] at hE;simp only [seqL] at hE;simp [go_sem,e1,e3,e5,e6,e7,e9,h8,hlt,qr];refine qx.seg [0,1,2,3,4,5,6,7,8,9,10,11,12,13,14] [(0,0,[]),(1,0,[]),(2,0,[]),(3,0,[]),(4,0,[]),(5,0,[]),(6,0,[]),(7,1,[]),(8,0,[]),(9,0,[]),(10,0,[]),(11,2,[0,3,6]),(12,2,[0,3,6]),(13,1,[]),(14,1,[])] (by kernel_rfl) (by kernel_rfl) (by simp [go_sem]) ?_;have hml:2<st.mu.length:=(qv.1 m2).1;have hpush:∀(l:List Cell) (i:Nat),i<st.mu.length→(st.mu++l)[i]?=st.mu[i]?:=fun l i hi=>qz hi
  have p0:=fun l=>(hpush l 0 (by omega)).trans m0
  have p1:=fun l=>(hpush l 1 (by omega)).trans m1
  have p2:=fun l=>(hpush l 2 (by omega)).trans m2
  have g0:=(qv.1 m0).2;have g1:=(qv.1 m1).2;have g2:=(qv.1 m2).2;have hl0:0<st.mu.length:=by omega
  have hl1:1<st.mu.length:=by omega
  simp [go_sem,e1,e3,e5,e6,e7,e9,h8,hlt,qr,m0];refine qc.pure ck (wkE c _ _ _) ?_;cases hx:X n.kids[k] with
  |error e =>
   have he:=hXerr _ _ hx;have he0:¬e.1=0:=by omega
   rw [hx] at hE;have hE:seqL X n.kids = .error e:=hE;obtain ⟨hS0,hD0⟩:=hfe e hE;rw [hS0,hD0];simp [go_sem,e1,e3,e5,e6,e7,e9,h8,hlt,qr,m0,g0,p0,hl0,qm,QE.tk,pc,he0,dgOf];rw [if_pos (qV _)];generalize hP:putCells _ 0 (cRS Sk)=P;have hP2:P=cRS Sk:=by rw [←hP];exact pc (aI 0) _ (fun _=>false) _
   subst hP2;clear hP;simp [go_sem,e1,e3,e5,e6,e7,e9,h8,hlt,qr,m0,g0,p0,hl0,qm,QE.tk,pc,he0,dgOf];refine qx.seg [0,1,2,3] [(0,0,[]),(1,0,[]),(2,1,[1]),(3,1,[])] (by kernel_rfl) (by kernel_rfl) (by simp [go_sem]) ?_;simp [go_sem,e1,e3,e5,e6,e7,e9,h8,hlt,qr,m0,g0,p0,hl0,qm,QE.tk,pc,he0,dgOf,p1,p2,g1,g2,hl1,hml];exact .hf _ (yg zR e)
  |ok a =>
   rw [hx] at hE;simp only at hE;simp [go_sem,e1,e3,e5,e6,e7,e9,h8,hlt,qr,m0,g0,p0,hl0,qm,QE.tk,pc,dgOf];rw [if_pos (qV _)];generalize hP:putCells _ 0 (cRS Sk)=P;have hP2:P=cRS Sk:=by rw [←hP];exact pc (aI 0) _ (fun _=>false) _
   subst hP2;clear hP;simp [go_sem,e1,e3,e5,e6,e7,e9,h8,hlt,qr,m0,g0,p0,hl0,qm,QE.tk,pc,dgOf];rw [if_pos (qV _)];simp [go_sem,e1,e3,e5,e6,e7,e9,h8,hlt];refine ZJ (lo:=3) (xs:=L) (ys:=[Sk]) ⟨by simpa using jW (jW ho.1 _) _,ho.2.1,by have:=ho.2.2;simp;omega⟩ (by simp [zf]) (by simp;omega) fun av' m' ho' hm'=>?_
   simp [go_sem,e1,e3,e5,e6,e7,e9,h8,hlt,w1];refine Keep.mk' ⟨acc++[a],L++[Sk],by simp [hal],by simp [hll],by simp [go_sem,e1],by simp [go_sem,e3],by simp [go_sem,e5],by simp [go_sem,e6],by simp [go_sem,e7],by simp [go_sem],?_,?_,?_,by simpa [go_sem] using ho',fun i x hi hik hkd=>?_,?_⟩
   ·simp only [qT];exact (hm' 0 (by omega)).trans (p0 _)
   ·simp only [qT];exact (hm' 1 (by omega)).trans (p1 _)
   ·simp only [qT];exact (hm' 2 (by omega)).trans (p2 _)
   ·by_cases hik2:i=k
    ·subst hik2
     rw [qX hlt] at hi;cases hi;obtain ⟨q,rfl,_⟩:=hXok _ a (qJ hlt) hx hkd;refine ⟨q,?_,?_⟩
     ·rw [zl (by omega),hal];simp
     ·rw [zl (by omega),hll];simp [hk1 hkd q hx]
    ·obtain ⟨q,q1,q2⟩:=hrel i x hi (by omega) hkd
     exact ⟨q,by rw [qz (by omega)];exact q1,by rw [qz (by omega)];exact q2⟩
   ·rw [hE]
    cases seqL X (n.kids.drop (k+1)) with
    |error e=>rfl
    |ok l=>simp
 ·have hkl':k=n.kids.length:=by omega
  subst hkl';rw [List.drop_length] at hE;have hE:seqL X n.kids = .ok acc:=by rw [hE];simp only [seqL,ye]
  obtain ⟨S',b,q1,q2,q3⟩:=hfo acc hE;have hL:((n.op=5∨n.op=11∨n.op=12∨n.op=13)∨(n.op=6∨n.op=14∨n.op=7∨n.op=8∨n.op=32∨n.op=33∨n.op=9∨n.op=10))→L=acc.map setO:=fun h=>by
   have hkd:∀ x,x∈n.kids→kd x.op=101:=fun x hx=>ZL hw h x hx
   refine List.ext_getElem? fun i=>?_
   by_cases hi:i<n.kids.length
   ·obtain ⟨q,e1,e2⟩:=hrel i n.kids[i] (by simp [hi]) hi (hkd _ (qJ hi))
    rw [e2,zM,e1];rfl
   ·rw [yx (by omega),yx (by simp;omega)]
  have hp:=q1 L hL;unfold prC at hp;have hml:2<st.mu.length:=(qv.1 m2).1;have hpush:∀(l:List Cell) (i:Nat),i<st.mu.length→(st.mu++l)[i]?=st.mu[i]?:=fun l i hi=>qz hi
  obtain ⟨rr,hrr⟩:=wE m0 m1 m2;simp [go_sem,e1,e3,e5,e6,e7,e9,h8,qr,m0];refine qc.lend (args':=[eTS c.ts,eNd n,lRS L]) hp ⟨.hf _ (zq _),.hf _ (qO n),rdRS ho,trivial⟩ (ZK S' b) ?_;have hrl:st.mu.length=rr.length+3:=by rw [hrr];rfl
  clear m0 m1 m2 hpush ho;simp [go_sem,e1,e3,e5,e6,e7,e9,h8,qr,hrr,qm,QE.tk,pc];rw [if_pos (qV _)];generalize hP:putCells _ 0 (cRS S')=P;have hP2:P=cRS S':=by rw [←hP];exact pc (aI 0) _ (fun _=>false) _
  subst hP2;clear hP;cases b with
  |true =>
   obtain ⟨rfl,rfl⟩:=q2 rfl;simp [go_sem,e1,e3,e5,e6,e7,e9,h8,hrr,qm,QE.tk,pc];rw [if_pos (qV _)];simp [go_sem,e1,e3,e5,e6,e7,e9,h8,hrr,qm,QE.tk,pc];exact .hf _ (yg S (0,0))
  |false =>
   obtain ⟨rfl,rfl⟩:=q3 rfl;simp [go_sem,e1,e3,e5,e6,e7,e9,h8,hrr,qm,QE.tk,pc];refine qx.seg [0,1,2,3,4,5] [(0,0,[]),(1,0,[]),(2,0,[]),(3,0,[]),(4,1,[2]),(5,1,[])] (by kernel_rfl) (by kernel_rfl) (by simp [go_sem]) ?_;simp [go_sem,e1,e3,e5,e6,e7,e9,h8,hrr,qm,QE.tk,pc];exact .hf _ (yg zR (42,n.pos))
theorem qhK (c:Ck) (hc:okCk c) (s:Scp) (n:Nd) (B:Bool) (X:Nd→Res) (S:RS) (D:Dg) (h1:¬n.op=1) (h47:¬n.op=47) (hb:¬(n.op=15∨n.op=45∨n.op=46)) (hw:WfN n) (hkl:n.kids.length≤401) (hT:True) (h12:n.op=12) (h13:¬n.op=13) (hBt:B=true)
  (hX1:∀ k,k∈n.kids→∃ S,qt Tryz.prog 46 [eVw c B,lVr (envS s),eNd k] (.tup [eRS S,eDg (dgOf (X k))])∧(kd k.op=101→∀ q,X k = .ok (some q)→S=qA q))
  (hXok:∀ k a,k∈n.kids→X k = .ok a→kd k.op=101→∃ q,a=some q∧okKd c.ts.sorts.length q)
  (hXerr:∀ k e,X k = .error e→40≤e.1)
  (hfe:∀ e,seqL X n.kids = .error e→S=zR∧D=e)
  (hfo:∀ l,seqL X n.kids = .ok l→∃ S' b,(∀ L:List RS,((n.op=5∨n.op=11∨n.op=12∨n.op=13)∨(n.op=6∨n.op=14∨n.op=7∨n.op=8∨n.op=32∨n.op=33∨n.op=9∨n.op=10)→L=l.map setO)→prC c.ts n L S' b)∧(b=true→S=S'∧D=(0,0))∧(b=false→S=zR∧D=(42,n.pos))) :
  qt Tryz.prog 46 [eVw c false,lVr (envS s),eNd n] (.tup [eRS S,eDg D]):=by
 simp only [not_or] at hb;obtain ⟨b1,b2,b3⟩:=hb;refine qSQ Tryz.call46 Tryz.func46 rfl { mt:=[3] } ?_;have ct:=vL n.op;have cp:=uj c hc n.name;simp [go_sem,h1,h47,b1,b2,b3];simp [go_sem,h12];refine qD.upK n.kids.length (fun k st=>∃(acc:List (Option Kd)) (L:List RS),acc.length=k∧L.length=k∧st.tm 1=lVr (envS s)∧st.tm 3 = .ptr 0 0∧st.tm 5 = .ip (cNd n)∧st.tm 6 = .ptr 1 0∧st.tm 7 = .ptr 2 0∧st.tm 9=aI k∧st.mu[0]?=some (.arr (cVw c B))∧st.mu[1]?=some (.arr (aI 0 :: hB fun _=>false))∧st.mu[2]?=some (.arr [aI 0,aI 0])∧OwnF 3 st.mu 65 (st.tm 8) (L.map cRS)∧(∀(i:Nat) x,n.kids[i]?=some x→i<k→kd x.op=101→∃ q,acc[i]?=some (some q)∧L[i]?=some (qA q))∧seqL X n.kids=(match seqL X (n.kids.drop k) with | .error e => .error e | .ok l => .ok (acc++l))) ?_ ?_
 ·refine ⟨[],[],rfl,rfl,by simp [go_sem],by simp [go_sem],by simp [go_sem],by simp [go_sem],by simp [go_sem],by simp [go_sem],by rw [hBt];simp [go_sem],by simp [go_sem];rfl,by simp [go_sem],by simp [go_sem];exact OwnF.nil (by simp),fun i x _ h=>absurd h (by omega),?_⟩
  simp only [List.drop_zero,List.nil_append];cases seqL X n.kids<;>rfl
 rintro k st hk ⟨acc,L,hal,hll,e1,e3,e5,e6,e7,e9,m0,m1,m2,ho,hrel,hE⟩;generalize h8:st.tm 8=av at *
 by_cases hlt:k<n.kids.length
 ·have w1:IntKind.i64.wrap ((k:Int)+1)=(k:Int)+1:=qy (by omega) (by omega)
  obtain ⟨Sk,ck,hk1⟩:=hX1 n.kids[k] (qJ hlt);rw [zA hlt] at hE;simp only [seqL] at hE;simp [go_sem,e1,e3,e5,e6,e7,e9,h8,hlt,qr];refine qx.seg [0,1,2,3,4,5,6,7,8,9,10,11,12,13,14] [(0,0,[]),(1,0,[]),(2,0,[]),(3,0,[]),(4,0,[]),(5,0,[]),(6,0,[]),(7,1,[]),(8,0,[]),(9,0,[]),(10,0,[]),(11,2,[0,3,6]),(12,2,[0,3,6]),(13,1,[]),(14,1,[])] (by kernel_rfl) (by kernel_rfl) (by simp [go_sem]) ?_;have hml:2<st.mu.length:=(qv.1 m2).1;have hpush:∀(l:List Cell) (i:Nat),i<st.mu.length→(st.mu++l)[i]?=st.mu[i]?:=fun l i hi=>qz hi
  have p0:=fun l=>(hpush l 0 (by omega)).trans m0
  have p1:=fun l=>(hpush l 1 (by omega)).trans m1
  have p2:=fun l=>(hpush l 2 (by omega)).trans m2
  have g0:=(qv.1 m0).2;have g1:=(qv.1 m1).2;have g2:=(qv.1 m2).2;have hl0:0<st.mu.length:=by omega
  have hl1:1<st.mu.length:=by omega
  simp [go_sem,e1,e3,e5,e6,e7,e9,h8,hlt,qr,m0];refine qc.pure ck (wkE c _ _ _) ?_;cases hx:X n.kids[k] with
  |error e =>
   have he:=hXerr _ _ hx;have he0:¬e.1=0:=by omega
   rw [hx] at hE;have hE:seqL X n.kids = .error e:=hE;obtain ⟨hS0,hD0⟩:=hfe e hE;rw [hS0,hD0];simp [go_sem,e1,e3,e5,e6,e7,e9,h8,hlt,qr,m0,g0,p0,hl0,qm,QE.tk,pc,he0,dgOf];rw [if_pos (qV _)];generalize hP:putCells _ 0 (cRS Sk)=P;have hP2:P=cRS Sk:=by rw [←hP];exact pc (aI 0) _ (fun _=>false) _
   subst hP2;clear hP;simp [go_sem,e1,e3,e5,e6,e7,e9,h8,hlt,qr,m0,g0,p0,hl0,qm,QE.tk,pc,he0,dgOf];refine qx.seg [0,1,2,3] [(0,0,[]),(1,0,[]),(2,1,[1]),(3,1,[])] (by kernel_rfl) (by kernel_rfl) (by simp [go_sem]) ?_;simp [go_sem,e1,e3,e5,e6,e7,e9,h8,hlt,qr,m0,g0,p0,hl0,qm,QE.tk,pc,he0,dgOf,p1,p2,g1,g2,hl1,hml];exact .hf _ (yg zR e)
  |ok a =>
   rw [hx] at hE;simp only at hE;simp [go_sem,e1,e3,e5,e6,e7,e9,h8,hlt,qr,m0,g0,p0,hl0,qm,QE.tk,pc,dgOf];rw [if_pos (qV _)];generalize hP:putCells _ 0 (cRS Sk)=P;have hP2:P=cRS Sk:=by rw [←hP];exact pc (aI 0) _ (fun _=>false) _
   subst hP2;clear hP;simp [go_sem,e1,e3,e5,e6,e7,e9,h8,hlt,qr,m0,g0,p0,hl0,qm,QE.tk,pc,dgOf];rw [if_pos (qV _)];simp [go_sem,e1,e3,e5,e6,e7,e9,h8,hlt];refine ZJ (lo:=3) (xs:=L) (ys:=[Sk]) ⟨by simpa using jW (jW ho.1 _) _,ho.2.1,by have:=ho.2.2;simp;omega⟩ (by simp [zf]) (by simp;omega) fun av' m' ho' hm'=>?_
   simp [go_sem,e1,e3,e5,e6,e7,e9,h8,hlt,w1];refine Keep.mk' ⟨acc++[a],L++[Sk],by simp [hal],by simp [hll],by simp [go_sem,e1],by simp [go_sem,e3],by simp [go_sem,e5],by simp [go_sem,e6],by simp [go_sem,e7],by simp [go_sem],?_,?_,?_,by simpa [go_sem] using ho',fun i x hi hik hkd=>?_,?_⟩
   ·simp only [qT];exact (hm' 0 (by omega)).trans (p0 _)
   ·simp only [qT];exact (hm' 1 (by omega)).trans (p1 _)
   ·simp only [qT];exact (hm' 2 (by omega)).trans (p2 _)
   ·by_cases hik2:i=k
    ·subst hik2
     rw [qX hlt] at hi;cases hi;obtain ⟨q,rfl,_⟩:=hXok _ a (qJ hlt) hx hkd;refine ⟨q,?_,?_⟩
     ·rw [zl (by omega),hal];simp
     ·rw [zl (by omega),hll];simp [hk1 hkd q hx]
    ·obtain ⟨q,q1,q2⟩:=hrel i x hi (by omega) hkd
     exact ⟨q,by rw [qz (by omega)];exact q1,by rw [qz (by omega)];exact q2⟩
   ·rw [hE]
    cases seqL X (n.kids.drop (k+1)) with
    |error e=>rfl
    |ok l=>simp
 ·have hkl':k=n.kids.length:=by omega
  subst hkl';rw [List.drop_length] at hE;have hE:seqL X n.kids = .ok acc:=by rw [hE];simp only [seqL,ye]
  obtain ⟨S',b,q1,q2,q3⟩:=hfo acc hE;have hL:((n.op=5∨n.op=11∨n.op=12∨n.op=13)∨(n.op=6∨n.op=14∨n.op=7∨n.op=8∨n.op=32∨n.op=33∨n.op=9∨n.op=10))→L=acc.map setO:=fun h=>by
   have hkd:∀ x,x∈n.kids→kd x.op=101:=fun x hx=>ZL hw h x hx
   refine List.ext_getElem? fun i=>?_
   by_cases hi:i<n.kids.length
   ·obtain ⟨q,e1,e2⟩:=hrel i n.kids[i] (by simp [hi]) hi (hkd _ (qJ hi))
    rw [e2,zM,e1];rfl
   ·rw [yx (by omega),yx (by simp;omega)]
  have hp:=q1 L hL;unfold prC at hp;have hml:2<st.mu.length:=(qv.1 m2).1;have hpush:∀(l:List Cell) (i:Nat),i<st.mu.length→(st.mu++l)[i]?=st.mu[i]?:=fun l i hi=>qz hi
  obtain ⟨rr,hrr⟩:=wE m0 m1 m2;simp [go_sem,e1,e3,e5,e6,e7,e9,h8,qr,m0];refine qc.lend (args':=[eTS c.ts,eNd n,lRS L]) hp ⟨.hf _ (zq _),.hf _ (qO n),rdRS ho,trivial⟩ (ZK S' b) ?_;have hrl:st.mu.length=rr.length+3:=by rw [hrr];rfl
  clear m0 m1 m2 hpush ho;simp [go_sem,e1,e3,e5,e6,e7,e9,h8,qr,hrr,qm,QE.tk,pc];rw [if_pos (qV _)];generalize hP:putCells _ 0 (cRS S')=P;have hP2:P=cRS S':=by rw [←hP];exact pc (aI 0) _ (fun _=>false) _
  subst hP2;clear hP;cases b with
  |true =>
   obtain ⟨rfl,rfl⟩:=q2 rfl;simp [go_sem,e1,e3,e5,e6,e7,e9,h8,hrr,qm,QE.tk,pc];rw [if_pos (qV _)];simp [go_sem,e1,e3,e5,e6,e7,e9,h8,hrr,qm,QE.tk,pc];exact .hf _ (yg S (0,0))
  |false =>
   obtain ⟨rfl,rfl⟩:=q3 rfl;simp [go_sem,e1,e3,e5,e6,e7,e9,h8,hrr,qm,QE.tk,pc];refine qx.seg [0,1,2,3,4,5] [(0,0,[]),(1,0,[]),(2,0,[]),(3,0,[]),(4,1,[2]),(5,1,[])] (by kernel_rfl) (by kernel_rfl) (by simp [go_sem]) ?_;simp [go_sem,e1,e3,e5,e6,e7,e9,h8,hrr,qm,QE.tk,pc];exact .hf _ (yg zR (42,n.pos))
theorem qhL (c:Ck) (hc:okCk c) (s:Scp) (n:Nd) (B:Bool) (X:Nd→Res) (S:RS) (D:Dg) (h1:¬n.op=1) (h47:¬n.op=47) (hb:¬(n.op=15∨n.op=45∨n.op=46)) (hw:WfN n) (hkl:n.kids.length≤401) (hT:True) (h12:¬n.op=12) (h13:n.op=13) (hBt:B=true)
  (hX1:∀ k,k∈n.kids→∃ S,qt Tryz.prog 46 [eVw c B,lVr (envS s),eNd k] (.tup [eRS S,eDg (dgOf (X k))])∧(kd k.op=101→∀ q,X k = .ok (some q)→S=qA q))
  (hXok:∀ k a,k∈n.kids→X k = .ok a→kd k.op=101→∃ q,a=some q∧okKd c.ts.sorts.length q)
  (hXerr:∀ k e,X k = .error e→40≤e.1)
  (hfe:∀ e,seqL X n.kids = .error e→S=zR∧D=e)
  (hfo:∀ l,seqL X n.kids = .ok l→∃ S' b,(∀ L:List RS,((n.op=5∨n.op=11∨n.op=12∨n.op=13)∨(n.op=6∨n.op=14∨n.op=7∨n.op=8∨n.op=32∨n.op=33∨n.op=9∨n.op=10)→L=l.map setO)→prC c.ts n L S' b)∧(b=true→S=S'∧D=(0,0))∧(b=false→S=zR∧D=(42,n.pos))) :
  qt Tryz.prog 46 [eVw c false,lVr (envS s),eNd n] (.tup [eRS S,eDg D]):=by
 simp only [not_or] at hb;obtain ⟨b1,b2,b3⟩:=hb;refine qSQ Tryz.call46 Tryz.func46 rfl { mt:=[3] } ?_;have ct:=vL n.op;have cp:=uj c hc n.name;simp [go_sem,h1,h47,b1,b2,b3];simp [go_sem,h12,h13];refine qD.upK n.kids.length (fun k st=>∃(acc:List (Option Kd)) (L:List RS),acc.length=k∧L.length=k∧st.tm 1=lVr (envS s)∧st.tm 3 = .ptr 0 0∧st.tm 5 = .ip (cNd n)∧st.tm 6 = .ptr 1 0∧st.tm 7 = .ptr 2 0∧st.tm 9=aI k∧st.mu[0]?=some (.arr (cVw c B))∧st.mu[1]?=some (.arr (aI 0 :: hB fun _=>false))∧st.mu[2]?=some (.arr [aI 0,aI 0])∧OwnF 3 st.mu 65 (st.tm 8) (L.map cRS)∧(∀(i:Nat) x,n.kids[i]?=some x→i<k→kd x.op=101→∃ q,acc[i]?=some (some q)∧L[i]?=some (qA q))∧seqL X n.kids=(match seqL X (n.kids.drop k) with | .error e => .error e | .ok l => .ok (acc++l))) ?_ ?_
 ·refine ⟨[],[],rfl,rfl,by simp [go_sem],by simp [go_sem],by simp [go_sem],by simp [go_sem],by simp [go_sem],by simp [go_sem],by rw [hBt];simp [go_sem],by simp [go_sem];rfl,by simp [go_sem],by simp [go_sem];exact OwnF.nil (by simp),fun i x _ h=>absurd h (by omega),?_⟩
  simp only [List.drop_zero,List.nil_append];cases seqL X n.kids<;>rfl
 rintro k st hk ⟨acc,L,hal,hll,e1,e3,e5,e6,e7,e9,m0,m1,m2,ho,hrel,hE⟩;generalize h8:st.tm 8=av at *
 by_cases hlt:k<n.kids.length
 ·have w1:IntKind.i64.wrap ((k:Int)+1)=(k:Int)+1:=qy (by omega) (by omega)
  obtain ⟨Sk,ck,hk1⟩:=hX1 n.kids[k] (qJ hlt);rw [zA hlt] at hE;simp only [seqL] at hE;simp [go_sem,e1,e3,e5,e6,e7,e9,h8,hlt,qr];refine qx.seg [0,1,2,3,4,5,6,7,8,9,10,11,12,13,14] [(0,0,[]),(1,0,[]),(2,0,[]),(3,0,[]),(4,0,[]),(5,0,[]),(6,0,[]),(7,1,[]),(8,0,[]),(9,0,[]),(10,0,[]),(11,2,[0,3,6]),(12,2,[0,3,6]),(13,1,[]),(14,1,[])] (by kernel_rfl) (by kernel_rfl) (by simp [go_sem]) ?_;have hml:2<st.mu.length:=(qv.1 m2).1;have hpush:∀(l:List Cell) (i:Nat),i<st.mu.length→(st.mu++l)[i]?=st.mu[i]?:=fun l i hi=>qz hi
  have p0:=fun l=>(hpush l 0 (by omega)).trans m0
  have p1:=fun l=>(hpush l 1 (by omega)).trans m1
  have p2:=fun l=>(hpush l 2 (by omega)).trans m2
  have g0:=(qv.1 m0).2;have g1:=(qv.1 m1).2;have g2:=(qv.1 m2).2;have hl0:0<st.mu.length:=by omega
  have hl1:1<st.mu.length:=by omega
  simp [go_sem,e1,e3,e5,e6,e7,e9,h8,hlt,qr,m0];refine qc.pure ck (wkE c _ _ _) ?_;cases hx:X n.kids[k] with
  |error e =>
   have he:=hXerr _ _ hx;have he0:¬e.1=0:=by omega
   rw [hx] at hE;have hE:seqL X n.kids = .error e:=hE;obtain ⟨hS0,hD0⟩:=hfe e hE;rw [hS0,hD0];simp [go_sem,e1,e3,e5,e6,e7,e9,h8,hlt,qr,m0,g0,p0,hl0,qm,QE.tk,pc,he0,dgOf];rw [if_pos (qV _)];generalize hP:putCells _ 0 (cRS Sk)=P;have hP2:P=cRS Sk:=by rw [←hP];exact pc (aI 0) _ (fun _=>false) _
   subst hP2;clear hP;simp [go_sem,e1,e3,e5,e6,e7,e9,h8,hlt,qr,m0,g0,p0,hl0,qm,QE.tk,pc,he0,dgOf];refine qx.seg [0,1,2,3] [(0,0,[]),(1,0,[]),(2,1,[1]),(3,1,[])] (by kernel_rfl) (by kernel_rfl) (by simp [go_sem]) ?_;simp [go_sem,e1,e3,e5,e6,e7,e9,h8,hlt,qr,m0,g0,p0,hl0,qm,QE.tk,pc,he0,dgOf,p1,p2,g1,g2,hl1,hml];exact .hf _ (yg zR e)
  |ok a =>
   rw [hx] at hE;simp only at hE;simp [go_sem,e1,e3,e5,e6,e7,e9,h8,hlt,qr,m0,g0,p0,hl0,qm,QE.tk,pc,dgOf];rw [if_pos (qV _)];generalize hP:putCells _ 0 (cRS Sk)=P;have hP2:P=cRS Sk:=by rw [←hP];exact pc (aI 0) _ (fun _=>false) _
   subst hP2;clear hP;simp [go_sem,e1,e3,e5,e6,e7,e9,h8,hlt,qr,m0,g0,p0,hl0,qm,QE.tk,pc,dgOf];rw [if_pos (qV _)];simp [go_sem,e1,e3,e5,e6,e7,e9,h8,hlt];refine ZJ (lo:=3) (xs:=L) (ys:=[Sk]) ⟨by simpa using jW (jW ho.1 _) _,ho.2.1,by have:=ho.2.2;simp;omega⟩ (by simp [zf]) (by simp;omega) fun av' m' ho' hm'=>?_
   simp [go_sem,e1,e3,e5,e6,e7,e9,h8,hlt,w1];refine Keep.mk' ⟨acc++[a],L++[Sk],by simp [hal],by simp [hll],by simp [go_sem,e1],by simp [go_sem,e3],by simp [go_sem,e5],by simp [go_sem,e6],by simp [go_sem,e7],by simp [go_sem],?_,?_,?_,by simpa [go_sem] using ho',fun i x hi hik hkd=>?_,?_⟩
   ·simp only [qT];exact (hm' 0 (by omega)).trans (p0 _)
   ·simp only [qT];exact (hm' 1 (by omega)).trans (p1 _)
   ·simp only [qT];exact (hm' 2 (by omega)).trans (p2 _)
   ·by_cases hik2:i=k
    ·subst hik2
     rw [qX hlt] at hi;cases hi;obtain ⟨q,rfl,_⟩:=hXok _ a (qJ hlt) hx hkd;refine ⟨q,?_,?_⟩
     ·rw [zl (by omega),hal];simp
     ·rw [zl (by omega),hll];simp [hk1 hkd q hx]
    ·obtain ⟨q,q1,q2⟩:=hrel i x hi (by omega) hkd
     exact ⟨q,by rw [qz (by omega)];exact q1,by rw [qz (by omega)];exact q2⟩
   ·rw [hE]
    cases seqL X (n.kids.drop (k+1)) with
    |error e=>rfl
    |ok l=>simp
 ·have hkl':k=n.kids.length:=by omega
  subst hkl';rw [List.drop_length] at hE;have hE:seqL X n.kids = .ok acc:=by rw [hE];simp only [seqL,ye]
  obtain ⟨S',b,q1,q2,q3⟩:=hfo acc hE;have hL:((n.op=5∨n.op=11∨n.op=12∨n.op=13)∨(n.op=6∨n.op=14∨n.op=7∨n.op=8∨n.op=32∨n.op=33∨n.op=9∨n.op=10))→L=acc.map setO:=fun h=>by
   have hkd:∀ x,x∈n.kids→kd x.op=101:=fun x hx=>ZL hw h x hx
   refine List.ext_getElem? fun i=>?_
   by_cases hi:i<n.kids.length
   ·obtain ⟨q,e1,e2⟩:=hrel i n.kids[i] (by simp [hi]) hi (hkd _ (qJ hi))
    rw [e2,zM,e1];rfl
   ·rw [yx (by omega),yx (by simp;omega)]
  have hp:=q1 L hL;unfold prC at hp;have hml:2<st.mu.length:=(qv.1 m2).1;have hpush:∀(l:List Cell) (i:Nat),i<st.mu.length→(st.mu++l)[i]?=st.mu[i]?:=fun l i hi=>qz hi
  obtain ⟨rr,hrr⟩:=wE m0 m1 m2;simp [go_sem,e1,e3,e5,e6,e7,e9,h8,qr,m0];refine qc.lend (args':=[eTS c.ts,eNd n,lRS L]) hp ⟨.hf _ (zq _),.hf _ (qO n),rdRS ho,trivial⟩ (ZK S' b) ?_;have hrl:st.mu.length=rr.length+3:=by rw [hrr];rfl
  clear m0 m1 m2 hpush ho;simp [go_sem,e1,e3,e5,e6,e7,e9,h8,qr,hrr,qm,QE.tk,pc];rw [if_pos (qV _)];generalize hP:putCells _ 0 (cRS S')=P;have hP2:P=cRS S':=by rw [←hP];exact pc (aI 0) _ (fun _=>false) _
  subst hP2;clear hP;cases b with
  |true =>
   obtain ⟨rfl,rfl⟩:=q2 rfl;simp [go_sem,e1,e3,e5,e6,e7,e9,h8,hrr,qm,QE.tk,pc];rw [if_pos (qV _)];simp [go_sem,e1,e3,e5,e6,e7,e9,h8,hrr,qm,QE.tk,pc];exact .hf _ (yg S (0,0))
  |false =>
   obtain ⟨rfl,rfl⟩:=q3 rfl;simp [go_sem,e1,e3,e5,e6,e7,e9,h8,hrr,qm,QE.tk,pc];refine qx.seg [0,1,2,3,4,5] [(0,0,[]),(1,0,[]),(2,0,[]),(3,0,[]),(4,1,[2]),(5,1,[])] (by kernel_rfl) (by kernel_rfl) (by simp [go_sem]) ?_;simp [go_sem,e1,e3,e5,e6,e7,e9,h8,hrr,qm,QE.tk,pc];exact .hf _ (yg zR (42,n.pos))
theorem qhM (c:Ck) (hc:okCk c) (s:Scp) (n:Nd) (B:Bool) (X:Nd→Res) (S:RS) (D:Dg) (h1:¬n.op=1) (h47:¬n.op=47) (hb:¬(n.op=15∨n.op=45∨n.op=46)) (hw:WfN n) (hkl:n.kids.length≤401) (hT:True) (h12:¬n.op=12) (h13:¬n.op=13) (hBt:B=false)
  (hX1:∀ k,k∈n.kids→∃ S,qt Tryz.prog 46 [eVw c B,lVr (envS s),eNd k] (.tup [eRS S,eDg (dgOf (X k))])∧(kd k.op=101→∀ q,X k = .ok (some q)→S=qA q))
  (hXok:∀ k a,k∈n.kids→X k = .ok a→kd k.op=101→∃ q,a=some q∧okKd c.ts.sorts.length q)
  (hXerr:∀ k e,X k = .error e→40≤e.1)
  (hfe:∀ e,seqL X n.kids = .error e→S=zR∧D=e)
  (hfo:∀ l,seqL X n.kids = .ok l→∃ S' b,(∀ L:List RS,((n.op=5∨n.op=11∨n.op=12∨n.op=13)∨(n.op=6∨n.op=14∨n.op=7∨n.op=8∨n.op=32∨n.op=33∨n.op=9∨n.op=10)→L=l.map setO)→prC c.ts n L S' b)∧(b=true→S=S'∧D=(0,0))∧(b=false→S=zR∧D=(42,n.pos))) :
  qt Tryz.prog 46 [eVw c false,lVr (envS s),eNd n] (.tup [eRS S,eDg D]):=by
 simp only [not_or] at hb;obtain ⟨b1,b2,b3⟩:=hb;refine qSQ Tryz.call46 Tryz.func46 rfl { mt:=[3] } ?_;have ct:=vL n.op;have cp:=uj c hc n.name;simp [go_sem,h1,h47,b1,b2,b3];simp [go_sem,h12,h13];refine qD.upK n.kids.length (fun k st=>∃(acc:List (Option Kd)) (L:List RS),acc.length=k∧L.length=k∧st.tm 1=lVr (envS s)∧st.tm 3 = .ptr 0 0∧st.tm 5 = .ip (cNd n)∧st.tm 6 = .ptr 1 0∧st.tm 7 = .ptr 2 0∧st.tm 9=aI k∧st.mu[0]?=some (.arr (cVw c B))∧st.mu[1]?=some (.arr (aI 0 :: hB fun _=>false))∧st.mu[2]?=some (.arr [aI 0,aI 0])∧OwnF 3 st.mu 65 (st.tm 8) (L.map cRS)∧(∀(i:Nat) x,n.kids[i]?=some x→i<k→kd x.op=101→∃ q,acc[i]?=some (some q)∧L[i]?=some (qA q))∧seqL X n.kids=(match seqL X (n.kids.drop k) with | .error e => .error e | .ok l => .ok (acc++l))) ?_ ?_
 ·refine ⟨[],[],rfl,rfl,by simp [go_sem],by simp [go_sem],by simp [go_sem],by simp [go_sem],by simp [go_sem],by simp [go_sem],by rw [hBt];simp [go_sem],by simp [go_sem];rfl,by simp [go_sem],by simp [go_sem];exact OwnF.nil (by simp),fun i x _ h=>absurd h (by omega),?_⟩
  simp only [List.drop_zero,List.nil_append];cases seqL X n.kids<;>rfl
 rintro k st hk ⟨acc,L,hal,hll,e1,e3,e5,e6,e7,e9,m0,m1,m2,ho,hrel,hE⟩;generalize h8:st.tm 8=av at *
 by_cases hlt:k<n.kids.length
 ·have w1:IntKind.i64.wrap ((k:Int)+1)=(k:Int)+1:=qy (by omega) (by omega)
  obtain ⟨Sk,ck,hk1⟩:=hX1 n.kids[k] (qJ hlt);rw [zA hlt] at hE;simp only [seqL] at hE;simp [go_sem,e1,e3,e5,e6,e7,e9,h8,hlt,qr];refine qx.seg [0,1,2,3,4,5,6,7,8,9,10,11,12,13,14] [(0,0,[]),(1,0,[]),(2,0,[]),(3,0,[]),(4,0,[]),(5,0,[]),(6,0,[]),(7,1,[]),(8,0,[]),(9,0,[]),(10,0,[]),(11,2,[0,3,6]),(12,2,[0,3,6]),(13,1,[]),(14,1,[])] (by kernel_rfl) (by kernel_rfl) (by simp [go_sem]) ?_;have hml:2<st.mu.length:=(qv.1 m2).1;have hpush:∀(l:List Cell) (i:Nat),i<st.mu.length→(st.mu++l)[i]?=st.mu[i]?:=fun l i hi=>qz hi
  have p0:=fun l=>(hpush l 0 (by omega)).trans m0
  have p1:=fun l=>(hpush l 1 (by omega)).trans m1
  have p2:=fun l=>(hpush l 2 (by omega)).trans m2
  have g0:=(qv.1 m0).2;have g1:=(qv.1 m1).2;have g2:=(qv.1 m2).2;have hl0:0<st.mu.length:=by omega
  have hl1:1<st.mu.length:=by omega
  simp [go_sem,e1,e3,e5,e6,e7,e9,h8,hlt,qr,m0];refine qc.pure ck (wkE c _ _ _) ?_;cases hx:X n.kids[k] with
  |error e =>
   have he:=hXerr _ _ hx;have he0:¬e.1=0:=by omega
   rw [hx] at hE;have hE:seqL X n.kids = .error e:=hE;obtain ⟨hS0,hD0⟩:=hfe e hE;rw [hS0,hD0];simp [go_sem,e1,e3,e5,e6,e7,e9,h8,hlt,qr,m0,g0,p0,hl0,qm,QE.tk,pc,he0,dgOf];rw [if_pos (qV _)];generalize hP:putCells _ 0 (cRS Sk)=P;have hP2:P=cRS Sk:=by rw [←hP];exact pc (aI 0) _ (fun _=>false) _
   subst hP2;clear hP;simp [go_sem,e1,e3,e5,e6,e7,e9,h8,hlt,qr,m0,g0,p0,hl0,qm,QE.tk,pc,he0,dgOf];refine qx.seg [0,1,2,3] [(0,0,[]),(1,0,[]),(2,1,[1]),(3,1,[])] (by kernel_rfl) (by kernel_rfl) (by simp [go_sem]) ?_;simp [go_sem,e1,e3,e5,e6,e7,e9,h8,hlt,qr,m0,g0,p0,hl0,qm,QE.tk,pc,he0,dgOf,p1,p2,g1,g2,hl1,hml];exact .hf _ (yg zR e)
  |ok a =>
   rw [hx] at hE;simp only at hE;simp [go_sem,e1,e3,e5,e6,e7,e9,h8,hlt,qr,m0,g0,p0,hl0,qm,QE.tk,pc,dgOf];rw [if_pos (qV _)];generalize hP:putCells _ 0 (cRS Sk)=P;have hP2:P=cRS Sk:=by rw [←hP];exact pc (aI 0) _ (fun _=>false) _
   subst hP2;clear hP;simp [go_sem,e1,e3,e5,e6,e7,e9,h8,hlt,qr,m0,g0,p0,hl0,qm,QE.tk,pc,dgOf];rw [if_pos (qV _)];simp [go_sem,e1,e3,e5,e6,e7,e9,h8,hlt];refine ZJ (lo:=3) (xs:=L) (ys:=[Sk]) ⟨by simpa using jW (jW ho.1 _) _,ho.2.1,by have:=ho.2.2;simp;omega⟩ (by simp [zf]) (by simp;omega) fun av' m' ho' hm'=>?_
   simp [go_sem,e1,e3,e5,e6,e7,e9,h8,hlt,w1];refine Keep.mk' ⟨acc++[a],L++[Sk],by simp [hal],by simp [hll],by simp [go_sem,e1],by simp [go_sem,e3],by simp [go_sem,e5],by simp [go_sem,e6],by simp [go_sem,e7],by simp [go_sem],?_,?_,?_,by simpa [go_sem] using ho',fun i x hi hik hkd=>?_,?_⟩
   ·simp only [qT];exact (hm' 0 (by omega)).trans (p0 _)
   ·simp only [qT];exact (hm' 1 (by omega)).trans (p1 _)
   ·simp only [qT];exact (hm' 2 (by omega)).trans (p2 _)
   ·by_cases hik2:i=k
    ·subst hik2
     rw [qX hlt] at hi;cases hi;obtain ⟨q,rfl,_⟩:=hXok _ a (qJ hlt) hx hkd;refine ⟨q,?_,?_⟩
     ·rw [zl (by omega),hal];simp
     ·rw [zl (by omega),hll];simp [hk1 hkd q hx]
    ·obtain ⟨q,q1,q2⟩:=hrel i x hi (by omega) hkd
     exact ⟨q,by rw [qz (by omega)];exact q1,by rw [qz (by omega)];exact q2⟩
   ·rw [hE]
    cases seqL X (n.kids.drop (k+1)) with
    |error e=>rfl
    |ok l=>simp
 ·have hkl':k=n.kids.length:=by omega
  subst hkl';rw [List.drop_length] at hE;have hE:seqL X n.kids = .ok acc:=by rw [hE];simp only [seqL,ye]
  obtain ⟨S',b,q1,q2,q3⟩:=hfo acc hE;have hL:((n.op=5∨n.op=11∨n.op=12∨n.op=13)∨(n.op=6∨n.op=14∨n.op=7∨n.op=8∨n.op=32∨n.op=33∨n.op=9∨n.op=10))→L=acc.map setO:=fun h=>by
   have hkd:∀ x,x∈n.kids→kd x.op=101:=fun x hx=>ZL hw h x hx
   refine List.ext_getElem? fun i=>?_
   by_cases hi:i<n.kids.length
   ·obtain ⟨q,e1,e2⟩:=hrel i n.kids[i] (by simp [hi]) hi (hkd _ (qJ hi))
    rw [e2,zM,e1];rfl
   ·rw [yx (by omega),yx (by simp;omega)]
  have hp:=q1 L hL;unfold prC at hp;have hml:2<st.mu.length:=(qv.1 m2).1;have hpush:∀(l:List Cell) (i:Nat),i<st.mu.length→(st.mu++l)[i]?=st.mu[i]?:=fun l i hi=>qz hi
  obtain ⟨rr,hrr⟩:=wE m0 m1 m2;simp [go_sem,e1,e3,e5,e6,e7,e9,h8,qr,m0];refine qc.lend (args':=[eTS c.ts,eNd n,lRS L]) hp ⟨.hf _ (zq _),.hf _ (qO n),rdRS ho,trivial⟩ (ZK S' b) ?_;have hrl:st.mu.length=rr.length+3:=by rw [hrr];rfl
  clear m0 m1 m2 hpush ho;simp [go_sem,e1,e3,e5,e6,e7,e9,h8,qr,hrr,qm,QE.tk,pc];rw [if_pos (qV _)];generalize hP:putCells _ 0 (cRS S')=P;have hP2:P=cRS S':=by rw [←hP];exact pc (aI 0) _ (fun _=>false) _
  subst hP2;clear hP;cases b with
  |true =>
   obtain ⟨rfl,rfl⟩:=q2 rfl;simp [go_sem,e1,e3,e5,e6,e7,e9,h8,hrr,qm,QE.tk,pc];rw [if_pos (qV _)];simp [go_sem,e1,e3,e5,e6,e7,e9,h8,hrr,qm,QE.tk,pc];exact .hf _ (yg S (0,0))
  |false =>
   obtain ⟨rfl,rfl⟩:=q3 rfl;simp [go_sem,e1,e3,e5,e6,e7,e9,h8,hrr,qm,QE.tk,pc];refine qx.seg [0,1,2,3,4,5] [(0,0,[]),(1,0,[]),(2,0,[]),(3,0,[]),(4,1,[2]),(5,1,[])] (by kernel_rfl) (by kernel_rfl) (by simp [go_sem]) ?_;simp [go_sem,e1,e3,e5,e6,e7,e9,h8,hrr,qm,QE.tk,pc];exact .hf _ (yg zR (42,n.pos))
theorem qhN (c:Ck) (hc:okCk c) (s:Scp) (hs:ScOk c.ts.sorts.length s) (inn:Bool) (n:Nd) (hw:WfN n) (h1:¬n.op=1) (h47:¬n.op=47) (hb:¬(n.op=15∨n.op=45∨n.op=46)) (ht:(inn&&yO c n.op n.name)=false) (ih:∀ k,k∈n.kids→∀ inn,ExR c s inn k):ExR c s inn n:=by
 have hx:exam c s inn n=match zB c s (inn||decide (n.op=12)||decide (n.op=13)) n.kids with | .error e => .error e | .ok l=>yB c.ts.sorts.length n.op n.n n.pos l:=by
  rw [vA,ht,if_neg (by simp),if_neg h1,if_neg h47,if_neg hb];generalize zB c s _ n.kids=Z;cases Z<;>rfl
 have hB1:n.op=12∨n.op=13→(inn||decide (n.op=12)||decide (n.op=13))=true:=fun h=>by rcases h with h | h<;>simp [h]
 have hB2:¬n.op=12→¬n.op=13→(inn||decide (n.op=12)||decide (n.op=13))=inn:=fun h h'=>by simp [h,h']
 generalize (inn||decide (n.op=12)||decide (n.op=13))=B at *
 obtain ⟨S,D,hSD,hq,hfe,hfo⟩:∃ S D,dgOf (exam c s inn n)=D∧(kd n.op=101→∀ q,exam c s inn n = .ok (some q)→S=qA q)∧(∀ e,zB c s B n.kids = .error e→S=zR∧D=e) ∧
   (∀ l,zB c s B n.kids = .ok l→∃ S' b,(∀ L:List RS,((n.op=5∨n.op=11∨n.op=12∨n.op=13)∨(n.op=6∨n.op=14∨n.op=7∨n.op=8∨n.op=32∨n.op=33∨n.op=9∨n.op=10)→L=l.map setO)→prC c.ts n L S' b)∧(b=true→S=S'∧D=(0,0))∧(b=false→S=zR∧D=(42,n.pos))):=by
  rw [hx];cases hE:zB c s B n.kids with
  |error e=>exact ⟨zR,e,rfl,(fun _ q h=>by cases h),(fun e' h=>by cases h;exact ⟨rfl,rfl⟩),(fun l h=>by cases h)⟩
  |ok l =>
   obtain ⟨hl1,hl2⟩:=Vb hE;have hap:=(Wm hc.ts.ns hw hl1 (fun i k' a hi ha hkd=>vR hc (szN k') k' s B a (qB _) (hw.kid (List.mem_of_getElem? hi)) hs (hl2 i k' a hi ha) hkd)).2;obtain ⟨S',b,p1,p2⟩:=qhA c.ts hc.ts n l h1 (fun h=>hb (.inl h)) (fun h=>by
    rcases h with h | h | h | h
    ·exact hap.1 h
    ·exact hap.2.1 (.inl h)
    ·exact hap.2.1 (.inr (.inl h))
    ·exact hap.2.1 (.inr (.inr h))) hap.2.2
   simp only;cases hA:yB c.ts.sorts.length n.op n.n n.pos l with
   |error e =>
    rw [hA] at p2;have p2:b=false:=p2;refine ⟨zR,e,rfl,(fun _ q h=>by cases h),(fun e' h=>by cases h),(fun l' h=>by cases h;exact ⟨S',b,p1,(fun h=>by rw [p2] at h;cases h),(fun _=>⟨rfl,qhC hA⟩)⟩)⟩
   |ok ko =>
    rw [hA] at p2;obtain ⟨p2,p3⟩:=p2;refine ⟨S',(0,0),rfl,(fun hk q h=>?_),(fun e' h=>by cases h),(fun l' h=>by cases h;exact ⟨S',b,p1,(fun _=>⟨rfl,rfl⟩),(fun h=>by rw [p2] at h;cases h)⟩)⟩;obtain ⟨q',e1,e2⟩:=p3 hk;cases h;cases e1;exact e2
 refine ⟨S,?_,hq⟩;rw [hSD];clear hSD hx hq;obtain ⟨X,hX⟩:∃ X:Nd→Res,X=exam c s B:=⟨_,rfl⟩;have hX1:∀ k,k∈n.kids→∃ S,qt Tryz.prog 46 [eVw c B,lVr (envS s),eNd k] (.tup [eRS S,eDg (dgOf (X k))])∧(kd k.op=101→∀ q,X k = .ok (some q)→S=qA q):=fun k hk=>by rw [hX];exact ih k hk B
 have hXok:∀ k a,k∈n.kids→X k = .ok a→kd k.op=101→∃ q,a=some q∧okKd c.ts.sorts.length q:=fun k a hk h hkd=>by rw [hX] at h;exact vR hc (szN k) k s B a (qB _) (hw.kid hk) hs h hkd
 have hXerr:∀ k e,X k = .error e→40≤e.1:=fun k e h=>by rw [hX] at h;exact uz c (szN k) k s B e (qB _) h
 rw [gL,←hX] at hfe hfo;clear hX ih;have hkl:=hw.len;cases inn with
 |true =>
  have hT:yn n.op=false:=by
   rw [Bool.true_and,VD,Bool.or_eq_false_iff] at ht;exact ht.1
  by_cases h12:n.op=12
  ·exact qhH c hc s n B X S D h1 h47 hb hw hkl hT h12 (by omega) (hB1 (.inl h12)) hX1 hXok hXerr hfe hfo
  by_cases h13:n.op=13
  ·exact qhI c hc s n B X S D h1 h47 hb hw hkl hT h12 h13 (hB1 (.inr h13)) hX1 hXok hXerr hfe hfo
  exact qhJ c hc s n B X S D h1 h47 hb hw hkl hT h12 h13 (hB2 h12 h13) hX1 hXok hXerr hfe hfo
 |false =>
  by_cases h12:n.op=12
  ·exact qhK c hc s n B X S D h1 h47 hb hw hkl trivial h12 (by omega) (hB1 (.inl h12)) hX1 hXok hXerr hfe hfo
  by_cases h13:n.op=13
  ·exact qhL c hc s n B X S D h1 h47 hb hw hkl trivial h12 h13 (hB1 (.inr h13)) hX1 hXok hXerr hfe hfo
  exact qhM c hc s n B X S D h1 h47 hb hw hkl trivial h12 h13 (hB2 h12 h13) hX1 hXok hXerr hfe hfo
theorem W9 (c:Ck) (hc:okCk c):∀(m:Nat) (n:Nd),depN n≤m→WfN n→∀(s:Scp),ScOk c.ts.sorts.length s→s.length+m≤80000→∀ inn,ExR c s inn n
 | 0,n,hm,_,_,_,_,_=>by have:=gF n;omega
 |m+1,n,hm,hw,s,hs,hsl,inn=>by
  have ih:∀ k,k∈n.kids→∀ s',ScOk c.ts.sorts.length s'→s'.length≤s.length+1→∀ inn,ExR c s' inn k:=fun k hk s' hs' hl inn=>W9 c hc m k (by have:=gE hk;rw [wv] at hm;omega) (hw.kid hk) s' hs' (by omega) inn
  cases ht:inn&&yO c n.op n.name with
  |true =>
   rw [Bool.and_eq_true] at ht;rw [ht.1];exact qhD c hc s n ht.2
  |false =>
   by_cases h1:n.op=1
   ·exact qhE c hc s (by omega) inn n h1
   by_cases h47:n.op=47
   ·exact qhF c hc s hs inn n hw h47 ht fun k hk=>ih k hk s hs (by omega) true
   by_cases hb:n.op=15∨n.op=45∨n.op=46
   ·exact qhG c hc s hs (by omega) inn n hw hb ht ih
   ·exact qhN c hc s hs inn n hw h1 h47 hb ht fun k hk inn=>ih k hk s hs (by omega) inn
end Go.Proofs.YtcfopdccdeeleaaGreatDoor.QS


namespace Go.Proofs.YtcfopdccdeeleaaGreatDoor.QT
open Go Go.Ev Go.Proofs Go.Proofs.YtcfopdccdeeleaaGreatDoor YM YF Y9 Y10 Y1 Y2 Y3 Y12 Y13 Y14 Y15 Y16 YZ P1 P2 PA PB Q5 QA QD QE QF QG QH QI QJ QK QL QM QN PG QO QR QS
def ckR (ts:TS) (i:Nat):Ck:=⟨ts,i,tmsL ts ts.preds.length⟩
theorem ZM {ts:TS} (h:okTS ts) {i:Nat} (hi:i≤ts.preds.length):okCk (ckR ts i):=⟨h,hi,by show i≤(tmsL ts ts.preds.length).length;rw [Qe ts _ (qB _)];exact hi⟩
theorem gM {c c':Ck} (hts:c'.ts=c.ts) (hcl:∀ nm,zJ c' nm=zJ c nm) (htm:∀ op nm,yO c' op nm=yO c op nm):∀(m:Nat) (n:Nd) (s:Scp) (inn:Bool),szN n≤m→exam c s inn n=exam c' s inn n
 | 0,n,_,_,hm=>by obtain ⟨op,nm,i,ks,p⟩:=n;simp [szN] at hm
 |m+1,n,s,inn,hm=>by
  have hk:∀ k,k∈n.kids→∀(s:Scp) (inn:Bool),exam c s inn k=exam c' s inn k:=fun k hk s inn=>gM hts hcl htm m k s inn (by have:=yu hk;omega)
  refine qeD rfl rfl rfl rfl (htm _ _) (fun _=>?_) (by rw [hts]) (hcl _) (by rw [hts]) rfl (fun _ ps=>qeE fun k hkk=>hk k hkk s true) (fun _ inn=>?_) (fun _ _ _ inn=>kX fun k hkk=>hk k hkk s inn)
  ·rw [kU,kU,hts]
  ·cases hks:n.kids with
   |nil=>rfl
   |cons k ks =>
    have hmem:∀ x,x∈k :: ks→x∈n.kids:=fun x hx=>by rw [hks];exact hx
    simp only [yU];rw [hk k (hmem k (zG ..)) s inn];have hr:∀ a,zB c ((n.name,a) :: s) inn ks=zB c' ((n.name,a) :: s) inn ks:=fun a=>kX fun x hx=>hk x (hmem x (zt _ hx)) _ _
    simp only [hr]
theorem gN {ts:TS} (h:okTS ts) {i:Nat} (hi:i≤ts.preds.length) (n:Nd) (s:Scp) (inn:Bool):exam (ckR ts i) s inn n=exam (mkCk ts i) s inn n:=by
 refine (gM (c:=mkCk ts i) (c':=ckR ts i) rfl (fun nm=>rfl) (fun op nm=>?_) (szN n) n s inn (qB _)).symm;unfold yO;have e:zJ (ckR ts i) nm=zJ (mkCk ts i) nm:=rfl;rw [e];cases hc:zJ (mkCk ts i) nm with
 |none=>rfl
 |some p =>
  obtain ⟨h1,h2⟩:=Qd (vO h hi) hc;have h1:p<i:=h1;have h2:p<ts.preds.length:=h2;simp only;have a1:=PC.W6 ts p ts.preds.length h2 (qB _) h2;have a2:=PC.W6 ts p i h1 hi h2;show (yn op||(decide (op=47)&&(tmsL ts ts.preds.length).getD p false))=(yn op||(decide (op=47)&&(tmsL ts i).getD p false));rw [a1,a2]
theorem qhO {ts:TS} (h:okTS ts) {i:Nat} (hi:i≤ts.preds.length) (env:List (ByteArray×Int)) (n:Nd):jd (mkCk ts i) env n=if 30≤n.op then dgOf (exam (ckR ts i) (zQ env) false n) else (43,n.pos):=by
 unfold jd;rw [gN h hi]
theorem gO (ts:TS) (h:okTS ts) (wp:∀ p,p∈ts.preds→WfN p.body) (i:Nat) (hi:i≤ts.preds.length) (env:List (ByteArray×Int)) (he:vB ts.sorts.length env) (hel:env.length≤1000) (n:Nd) (hw:WfN n) (hd:depN n≤24) :
  qt Tryz.prog 64 [eTS ts,aI i,lPm env,eNd n] (eDg (jd (mkCk ts i) env n)):=by
 rw [qhO h hi];have hns:=h.ns;have hs:=Zq he;have hbl:(zQ env).length=env.length:=by
  have:=congrArg List.length (VC env);rw [Ji] at this;simpa [envV] using this.symm
 obtain ⟨S,ce,_⟩:=W9 (ckR ts i) (ZM h hi) 24 n hd hw (zQ env) hs (by omega) false;have cv:=envU env hel (fun p hp=>by have:=he.r p hp;omega);rw [VC] at cv;have c1:=qgX n;have c2:=gu ts h wp;refine qSQ Tryz.call64 Tryz.func64 rfl {} ?_;simp [go_sem];refine qc.pure c1 (.cons (.hf (qO n)) .nil) ?_;by_cases h30:30≤n.op
 ·rw [if_pos h30]
  generalize dgOf (exam (ckR ts i) (zQ env) false n)=D at *
  simp [go_sem,h30];refine qx.seg [0,1,3,5,7,2,4,6,8,9,10,11,12,13,14,15] [(0,0,[]),(1,0,[]),(3,0,[]),(5,0,[]),(7,0,[]),(2,1,[0,7]),(4,0,[]),(6,1,[0,7]),(8,1,[]),(9,0,[]),(10,0,[]),(11,0,[]),(12,2,[0,1,7]),(13,2,[0,1,7]),(14,1,[]),(15,1,[])] (by kernel_rfl) (by kernel_rfl) (by simp [go_sem]) ?_;simp [go_sem];refine qc.pure c2 (.cons (.hf (zq ts)) .nil) ?_;simp [go_sem];refine qc.pure cv (.cons (.hf (jJ env)) .nil) ?_;simp [go_sem];refine qc.pure ce (wkE (ckR ts i) false _ n) ?_;simp [go_sem,qm,QE.tk,pc];rw [if_pos (qV _)];generalize hP:putCells _ 0 (cRS S)=P;have hP2:P=cRS S:=by rw [←hP];exact pc (aI 0) _ (fun _=>false) _
  subst hP2;clear hP;simp [go_sem,qm,QE.tk,pc];exact .hf _ (vG D)
 ·rw [if_neg h30]
  simp [go_sem,h30];exact .hf _ (vG (43,n.pos))
theorem Xa (ts:TS) (h:okTS ts) (wp:∀ p,p∈ts.preds→WfN p.body) (env:List (ByteArray×Int)) (he:vB ts.sorts.length env) (hel:env.length≤1000) (n:Nd) (hw:WfN n) (hd:depN n≤24) :
  qt Tryz.prog 21 [eTS ts,lPm env,eNd n] (eDg (yK ts env n)):=by
 have c1:=gO ts h wp ts.preds.length (qB _) env he hel n hw hd;have e:jd (mkCk ts ts.preds.length) env n=yK ts env n:=rfl;rw [e] at c1;generalize yK ts env n=D at *
 refine qSQ Tryz.call21 Tryz.func21 rfl {} ?_;simp [go_sem];refine qc.pure c1 (.cons (.hf (zq ts)) (.cons (.hf (HF.sc _)) (.cons (.hf (jJ env)) (.cons (.hf (qO n)) .nil)))) ?_;simp [go_sem];exact .hf _ (vG D)
theorem ZN (a b:List Bool):dups (a++b)=dups a++dups b:=by simp [dups]
theorem uA (b:Bool):dups [b]=if b=true then [(41,0)] else []:=by cases b<;>rfl
theorem jz (l:List Bool):(dups l).length≤l.length:=by
 unfold dups;rw [jn];exact List.length_filter_le ..
theorem Xb {α:Type} (eqv:α→α→Bool) (l:List α) (k:Nat) (h:k<l.length):(repL eqv l).take (k+1)=(repL eqv l).take k++[(l.take k).any fun y=>eqv l[k] y]:=by
 have hl:k<(repL eqv l).length:=by rw [yQ];exact h
 rw [wF hl];congr 2;have:=Qh eqv l h;rw [qX hl] at this;exact Option.some.inj this
theorem VE {α:Type} (p:α→Bool) (l:List α) (k:Nat) (h:k<l.length):(l.take (k+1)).any p=((l.take k).any p||p l[k]):=by
 rw [wF h,List.any_append];simp only [List.any_cons,List.any_nil,Bool.or_false]
abbrev eS:ByteArray×Bool→ByteArray×Bool→Bool:=fun x y=>decide (x.1=y.1)
abbrev eF:Fld→Fld→Bool:=fun x y=>decide (x.name=y.name)&&decide (x.sorts=y.sorts)
abbrev eP:Pd→Pd→Bool:=fun x y=>decide (x.name=y.name)
abbrev eM:ByteArray×Int→ByteArray×Int→Bool:=fun x y=>decide (x.1=y.1)
abbrev eA:ByteArray×Nd→ByteArray×Nd→Bool:=fun x y=>decide (x.1=y.1)
theorem uC {mu:Mu} {lo:Nat} {s x:AV} {xs ys:List Dg} {K:AV→Mu→Prop} (ho:OwnF lo mu 2 s (xs.map cDg)) (hx:zf mu x=some (ys.map cDg)) (hl:xs.length+ys.length≤100000) (kk:∀ av mu',OwnF lo mu' 2 av ((xs++ys).map cDg)→(∀ i,i<lo→mu'[i]?=mu[i]?)→K av mu') :
  zo Tryz.prog mu #[36,36] s x K:=by
 have hrows:∀ l:List Dg,zC 2 (l.map cDg):=fun l r hr=>by
  obtain ⟨n,_,rfl⟩:=qE.1 hr;exact ⟨rfl,rfl⟩
 refine zo.ownF (lo:=lo) (e:=44) (sz:=2) (bt:=16) (zv := .agg [aI 0,aI 0]) (xs:=xs.map cDg) (ys:=ys.map cDg) (by simp [go_sem]) (by simp [go_sem]) (by simp [go_sem]) rfl rfl (by omega) (by omega) ho hx (hrows xs) (hrows ys) (by simp;omega) ?_;intro av mu' h h2;exact kk av mu' (by rw [List.map_append];exact h) h2
theorem qhP (ts:TS) (h:okTS ts) (mu:Mu):qW Tryz.prog 37 [eTS ts] mu fun e m=>∃ av,e = .ret av∧OwnF mu.length m 2 av ((dups (repL eS ts.sorts)++dups (repL eF ts.fields)).map cDg)∧∀ i,i<mu.length→m[i]?=mu[i]?:=by
 refine qSW Tryz.call37 Tryz.func37 rfl {} ?_;have hns:=h.ns;have hnf:=h.nf;simp [go_sem];refine qD.upK ts.sorts.length (fun i st=>st.tm 1 = .ip (cTS ts)∧st.tm 4=aI i∧OwnF mu.length st.mu 2 (st.tm 3) ((dups ((repL eS ts.sorts).take i)).map cDg)∧∀ i,i<mu.length→st.mu[i]?=mu[i]?) ?_ ?_
 ·exact ⟨by simp [go_sem],by simp [go_sem],by simp [go_sem,dups];exact OwnF.nil (qB _),by simp [go_sem]⟩
 rintro i st hi ⟨e1,e4,ho,hm⟩;have hlen:(dups ((repL eS ts.sorts).take i)).length≤i:=yZ (jz _) (List.length_take_le ..);generalize h3:st.tm 3=av at *
 by_cases hlt:i<ts.sorts.length
 ·have hnx:=Xb eS ts.sorts i hlt
  have wi:IntKind.i64.wrap ((i:Int)+1)=(i:Int)+1:=qy (by omega) (by omega);simp [go_sem,e1,e4,h3,hlt];refine qD.upK i (fun k st2=>st2.tm 1 = .ip (cTS ts)∧st2.tm 4=aI i∧st2.tm 3=av∧st2.tm 6=aI k∧st2.tm 5=aB ((ts.sorts.take k).any fun y=>eS ts.sorts[i] y)∧st2.mu=st.mu) ?_ ?_
  ·exact ⟨by simp [go_sem,e1],by simp [go_sem,e4],by simp [go_sem,h3],by simp [go_sem],by simp [go_sem],by simp [go_sem]⟩
  rintro k st2 hk ⟨f1,f4,f3,f6,f5,fm⟩;generalize hT:(ts.sorts.take k).any (fun y=>eS ts.sorts[i] y)=T at *
  by_cases hki:k<i
  ·have hkl:k<ts.sorts.length:=by omega
   have wk:IntKind.i64.wrap ((k:Int)+1)=(k:Int)+1:=qy (by omega) (by omega);have hany:=VE (fun y=>eS ts.sorts[i] y) ts.sorts k hkl;rw [hT] at hany;simp [go_sem,f1,f4,f3,f6,f5,hki];refine qx.intro (by kernel_rfl) ?_;cases T with
   |true =>
    rw [Bool.true_or] at hany;simp [go_sem,f1,f4,f3,f6,f5,hki,hkl,hlt,wk];exact Keep.mk' ⟨by simp [go_sem,f1],by simp [go_sem,f4],by simp [go_sem,f3],by simp [go_sem],by rw [hany];simp [go_sem],by simp [go_sem,fm]⟩
   |false =>
    rw [Bool.false_or] at hany;by_cases hq:ts.sorts[k].1=ts.sorts[i].1
    ·have hany2:(ts.sorts.take (k+1)).any (fun y=>eS ts.sorts[i] y)=true:=by rw [hany];exact decide_eq_true hq.symm
     simp [go_sem,f1,f4,f3,f6,f5,hki,hkl,hlt,wk,hq];exact Keep.mk' ⟨by simp [go_sem,f1],by simp [go_sem,f4],by simp [go_sem,f3],by simp [go_sem],by rw [hany2];simp [go_sem],by simp [go_sem,fm]⟩
    ·have hany2:(ts.sorts.take (k+1)).any (fun y=>eS ts.sorts[i] y)=false:=by rw [hany];exact decide_eq_false fun e=>hq e.symm
     simp [go_sem,f1,f4,f3,f6,f5,hki,hkl,hlt,wk,zL hq];exact Keep.mk' ⟨by simp [go_sem,f1],by simp [go_sem,f4],by simp [go_sem,f3],by simp [go_sem],by rw [hany2];simp [go_sem],by simp [go_sem,fm]⟩
  ·have hke:k=i:=by omega
   subst hke;rw [hT] at hnx;cases T with
   |true =>
    simp [go_sem,f1,f4,f3,f6,f5,fm];refine uC (ys:=[(41,0)]) ho (by simp [zf]) (by simp;omega) fun av' m' ho' hm'=>?_
    simp [go_sem,f1,f4,wi];exact ⟨hlt,Keep.mk' ⟨by simp [go_sem,f1],by simp [go_sem],by rw [hnx,ZN,uA,if_pos rfl];simpa [go_sem] using ho',by simp only [qT];exact fun i hi=>(hm' i hi).trans (hm i hi)⟩⟩
   |false =>
    simp [go_sem,f1,f4,f3,f6,f5,fm,wi];exact ⟨hlt,Keep.mk' ⟨by simp [go_sem,f1],by simp [go_sem],by rw [hnx,ZN,uA,if_neg (by simp),ye];simpa [go_sem,f3,fm] using ho,by simp only [qT];exact hm⟩⟩
 ·have hie:i=ts.sorts.length:=by omega
  subst hie;rw [y5 (by rw [yQ];exact qB _)] at ho;simp [go_sem,e1,e4,h3];generalize hDS:dups (repL eS ts.sorts)=DS0 at *
  have hds:DS0.length≤4:=by rw [←hDS];exact yZ (jz _) (by rw [yQ];exact hns)
  refine qD.upK ts.fields.length (fun i st=>st.tm 1 = .ip (cTS ts)∧st.tm 7=aI i∧OwnF mu.length st.mu 2 (st.tm 3) ((DS0++dups ((repL eF ts.fields).take i)).map cDg)∧∀ i,i<mu.length→st.mu[i]?=mu[i]?) ?_ ?_
  ·exact ⟨by simp [go_sem,e1],by simp [go_sem],by simpa [go_sem,dups,h3] using ho,by simpa [go_sem] using hm⟩
  clear hlen ho hm e1 e4 h3 hlt hi st;rintro i st hi ⟨e1,e4,ho,hm⟩;have hlen:(dups ((repL eF ts.fields).take i)).length≤i:=yZ (jz _) (List.length_take_le ..);generalize h3:st.tm 3=av2 at *
  by_cases hlt:i<ts.fields.length
  ·have hnx:=Xb eF ts.fields i hlt
   have wi:IntKind.i64.wrap ((i:Int)+1)=(i:Int)+1:=qy (by omega) (by omega);simp [go_sem,e1,e4,h3,hlt];refine qD.upK i (fun k st2=>st2.tm 1 = .ip (cTS ts)∧st2.tm 7=aI i∧st2.tm 3=av2∧st2.tm 9=aI k∧st2.tm 8=aB ((ts.fields.take k).any fun y=>eF ts.fields[i] y)∧st2.mu=st.mu) ?_ ?_
   ·exact ⟨by simp [go_sem,e1],by simp [go_sem,e4],by simp [go_sem,h3],by simp [go_sem],by simp [go_sem],by simp [go_sem]⟩
   rintro k st2 hk ⟨f1,f4,f3,f6,f5,fm⟩;generalize hT:(ts.fields.take k).any (fun y=>eF ts.fields[i] y)=T at *
   by_cases hki:k<i
   ·have hkl:k<ts.fields.length:=by omega
    have wk:IntKind.i64.wrap ((k:Int)+1)=(k:Int)+1:=qy (by omega) (by omega);have hany:=VE (fun y=>eF ts.fields[i] y) ts.fields k hkl;rw [hT] at hany;have hfl:=h.fl _ (qJ hkl);have hsm:=kP ts.fields[k].sorts ts.fields[i].sorts (by omega);simp [go_sem,f1,f4,f3,f6,f5,hki];refine qx.intro (by kernel_rfl) ?_;cases T with
    |true =>
     rw [Bool.true_or] at hany;simp [go_sem,f1,f4,f3,f6,f5,hki,hkl,hlt,wk];exact Keep.mk' ⟨by simp [go_sem,f1],by simp [go_sem,f4],by simp [go_sem,f3],by simp [go_sem],by rw [hany];simp [go_sem],by simp [go_sem,fm]⟩
    |false =>
     rw [Bool.false_or] at hany;by_cases hq:ts.fields[k].name=ts.fields[i].name
     ·simp [go_sem,f1,f4,f3,f6,f5,hki,hkl,hlt,wk,hq]
      refine qc.pure hsm (.cons (.hf (j9 _)) (.cons (.hf (j9 _)) .nil)) ?_;by_cases hq2:ts.fields[k].sorts=ts.fields[i].sorts
      ·have hany2:(ts.fields.take (k+1)).any (fun y=>eF ts.fields[i] y)=true:=by rw [hany];simp [eF,hq.symm,hq2.symm]
       simp [go_sem,f1,f4,f3,f6,f5,hki,hkl,hlt,wk,hq2];exact Keep.mk' ⟨by simp [go_sem,f1],by simp [go_sem,f4],by simp [go_sem,f3],by simp [go_sem],by rw [hany2];simp [go_sem],by simp [go_sem,fm]⟩
      ·have hany2:(ts.fields.take (k+1)).any (fun y=>eF ts.fields[i] y)=false:=by rw [hany];simp [eF,hq.symm];exact fun e=>hq2 e.symm
       simp [go_sem,f1,f4,f3,f6,f5,hki,hkl,hlt,wk,hq2];exact Keep.mk' ⟨by simp [go_sem,f1],by simp [go_sem,f4],by simp [go_sem,f3],by simp [go_sem],by rw [hany2];simp [go_sem],by simp [go_sem,fm]⟩
     ·have hany2:(ts.fields.take (k+1)).any (fun y=>eF ts.fields[i] y)=false:=by rw [hany];simp [eF];exact fun e=>absurd e.symm hq
      simp [go_sem,f1,f4,f3,f6,f5,hki,hkl,hlt,wk,zL hq];exact Keep.mk' ⟨by simp [go_sem,f1],by simp [go_sem,f4],by simp [go_sem,f3],by simp [go_sem],by rw [hany2];simp [go_sem],by simp [go_sem,fm]⟩
   ·have hke:k=i:=by omega
    subst hke;rw [hT] at hnx;cases T with
    |true =>
     simp [go_sem,f1,f4,f3,f6,f5,fm];refine uC (ys:=[(41,0)]) ho (by simp [zf]) (by simp;omega) fun av' m' ho' hm'=>?_
     simp [go_sem,f1,f4,wi];exact ⟨hlt,Keep.mk' ⟨by simp [go_sem,f1],by simp [go_sem],by rw [hnx,ZN,uA,if_pos rfl,←zW];simpa [go_sem] using ho',by simp only [qT];exact fun i hi=>(hm' i hi).trans (hm i hi)⟩⟩
    |false =>
     simp [go_sem,f1,f4,f3,f6,f5,fm,wi];exact ⟨hlt,Keep.mk' ⟨by simp [go_sem,f1],by simp [go_sem],by rw [hnx,ZN,uA,if_neg (by simp),ye];simpa [go_sem,f3,fm] using ho,by simp only [qT];exact hm⟩⟩
  ·have hie:i=ts.fields.length:=by omega
   subst hie;rw [y5 (by rw [yQ];exact qB _)] at ho;simp [go_sem,e1,e4,h3];exact ⟨by simpa using ho,hm⟩
end Go.Proofs.YtcfopdccdeeleaaGreatDoor.QT


namespace Go.Proofs.YtcfopdccdeeleaaGreatDoor.QU
open Go Go.Ev Go.Proofs Go.Proofs.YtcfopdccdeeleaaGreatDoor YM YF Y9 Y10 Y1 Y2 Y3 Y12 Y13 Y14 Y15 Y16 YZ P1 P2 PA PB Q5 QA QD QE QF QG QH QI QJ QK QL QM QN PG QO QR QS QT
theorem qhQ {ts:TS} {i:Nat} (hi:i<ts.preds.length):(∃ p:Nat,zJ (ckR ts i) ts.preds[i].name=some p∧(ts.preds.take i).any (fun y=>eP ts.preds[i] y)=true)∨(zJ (ckR ts i) ts.preds[i].name=none∧(ts.preds.take i).any (fun y=>eP ts.preds[i] y)=false):=by
 cases h:zJ (ckR ts i) ts.preds[i].name with
 |some p =>
  left;refine ⟨p,rfl,?_⟩;unfold zJ at h;rw [List.findIdx?_eq_some_iff_getElem] at h;obtain ⟨hp,a1,_⟩:=h;refine List.any_eq_true.2 ⟨_,qJ hp,?_⟩;have a1:decide ((ts.preds.take i)[p].name=ts.preds[i].name)=true:=a1;have a1:(ts.preds.take i)[p].name=ts.preds[i].name:=by simpa using a1
  exact decide_eq_true a1.symm
 |none =>
  right;refine ⟨rfl,?_⟩;unfold zJ at h;rw [List.findIdx?_eq_none_iff] at h;rw [List.any_eq_false];intro x hx;have:=h x hx;have:¬x.name=ts.preds[i].name:=by simpa using this
  simpa using fun e:ts.preds[i].name=x.name=>this e.symm
theorem Wp (d:Dg):(rp d).length≤1:=by unfold rp;split<;>simp
theorem rdDg {lo:Nat} {mu:Mu} {av:AV} {xs:List Dg} (h:OwnF lo mu 2 av (xs.map cDg)):Rd mu av (lDg xs):=by
 refine h.1.rd (zC.ok fun r hr=>?_) fun r hr c hc=>?_
 ·obtain ⟨n,_,rfl⟩:=qE.1 hr
  exact ⟨rfl,rfl⟩
 ·obtain ⟨n,_,rfl⟩:=qE.1 hr
  rcases qK.1 hc with rfl | hc
  ·exact HF.sc _
  ·rw [zj] at hc;subst hc;exact HF.sc _
theorem ZO {lo sz:Nat} {mu:Mu} {av:AV} {xs:List (List AV)} (h:OwnF lo mu sz av xs) (c:Cell):OwnF lo (mu++[c]) sz av xs:=⟨jW h.1 c,h.2.1,by have:=h.2.2;simp;omega⟩
theorem qhR (ts:TS) (h:okTS ts) (wp:∀ p,p∈ts.preds→WfN p.body) (i:Nat) (hi:i<ts.preds.length) (hd:depN ts.preds[i].body≤24):qt Tryz.prog 38 [eTS ts,aI i] (lDg (je ts i)):=by
 have hpd:=h.pl _ (qJ hi);have hnp:=h.np;have c1:=gO ts h wp i (by omega) ts.preds[i].params ⟨by omega,hpd.2⟩ (by omega) ts.preds[i].body (wp _ (qJ hi)) hd;have c2:=Je (ckR ts i) (ZM h (by omega)) ts.preds[i].name;have hct:=qhQ hi;have hp:je ts i=dups [(ts.preds.take i).any (fun y=>eP ts.preds[i] y)]++(dups (repL eM ts.preds[i].params)++rp (jd (mkCk ts i) ts.preds[i].params ts.preds[i].body)):=by
  unfold je;rw [qX hi];simp only;rw [kY,qX hi]
 rw [hp];generalize hD:jd (mkCk ts i) ts.preds[i].params ts.preds[i].body=D at *
 generalize hb:(ts.preds.take i).any (fun y=>eP ts.preds[i] y)=b at *
 have hdl:(dups [b]).length≤1:=by cases b<;>simp [dups]
 refine qSQ Tryz.call38 Tryz.func38 rfl {} ?_;simp [go_sem];refine qx.intro (by kernel_rfl) ?_;simp [go_sem,hi,jt];refine qc.pure c2 (.cons (.hf (zq _)) (.cons (.hf (HF.sc _)) (.cons (.hf (HF.sc _)) .nil))) ?_;have wk:WKs [eTS ts,aI i,lPm ts.preds[i].params,eNd ts.preds[i].body] [eTS ts,aI i,lPm ts.preds[i].params,eNd ts.preds[i].body] := .cons (.hf (zq _)) (.cons (.hf (HF.sc _)) (.cons (.hf (jJ _)) (.cons (.hf (qO _)) .nil)));have hrow:=jt;have fin:∀ st:St,True:=fun _=>trivial
 rcases hct with ⟨p,hc,hbt⟩ | ⟨hc,hbt⟩
 case' inl =>
  subst hbt;rw [hc];have hp0:(0:Int)≤(p:Int):=by omega
  simp [go_sem,idxO,hp0];refine uC (lo:=0) (xs:=[]) (ys:=[(41,0)]) (OwnF.nil (by simp)) (by simp [zf]) (by simp) fun av0 m0 ho0 _=>?_
  simp [go_sem,hi,jt]
 case' inr =>
  subst hbt;rw [hc];simp [go_sem,idxO,hi,jt]
 all_goals
  generalize hpp:ts.preds[i]=pd at *
 case' inl =>
  refine qD.upK pd.params.length (fun k st=>st.tm 2 = .ip (cTS ts)∧st.tm 1=aI i∧st.tm 6=lPm pd.params∧st.tm 7=aI k∧OwnF 0 st.mu 2 (st.tm 5) ((dups [true]++dups ((repL eM pd.params).take k)).map cDg)) ?_ ?_
  ·exact ⟨by simp [go_sem],by simp [go_sem],by simp [go_sem],by simp [go_sem],by simpa [go_sem,dups] using ho0⟩
 case' inr =>
  refine qD.upK pd.params.length (fun k st=>st.tm 2 = .ip (cTS ts)∧st.tm 1=aI i∧st.tm 6=lPm pd.params∧st.tm 7=aI k∧OwnF 0 st.mu 2 (st.tm 5) ((dups [false]++dups ((repL eM pd.params).take k)).map cDg)) ?_ ?_
  ·exact ⟨by simp [go_sem],by simp [go_sem],by simp [go_sem],by simp [go_sem],by simp [go_sem,dups];exact OwnF.nil (by simp)⟩
 all_goals
  rintro k st hk ⟨e2,e1,e6,e7,ho⟩;have hlen:(dups ((repL eM pd.params).take k)).length≤k:=yZ (Y16.jz _) (List.length_take_le ..);generalize h5:st.tm 5=av at *
  by_cases hlt:k<pd.params.length
  ·have hnx:=Xb eM pd.params k hlt
   have wi:IntKind.i64.wrap ((k:Int)+1)=(k:Int)+1:=qy (by omega) (by omega);simp [go_sem,e2,e1,e6,e7,h5,hlt];refine qD.upK k (fun j st2=>st2.tm 2 = .ip (cTS ts)∧st2.tm 1=aI i∧st2.tm 6=lPm pd.params∧st2.tm 7=aI k∧st2.tm 5=av∧st2.tm 9=aI j∧st2.tm 8=aB ((pd.params.take j).any fun y=>eM pd.params[k] y)∧st2.mu=st.mu) ?_ ?_
   ·exact ⟨by simp [go_sem,e2],by simp [go_sem,e1],by simp [go_sem,e6],by simp [go_sem,e7],by simp [go_sem,h5],by simp [go_sem],by simp [go_sem],by simp [go_sem]⟩
   rintro j st2 hj ⟨f2,f1,f6,f7,f5,f9,f8,fm⟩;generalize hT:(pd.params.take j).any (fun y=>eM pd.params[k] y)=T at *
   by_cases hjk:j<k
   ·have hjl:j<pd.params.length:=by omega
    have wj:IntKind.i64.wrap ((j:Int)+1)=(j:Int)+1:=qy (by omega) (by omega);have hany:=VE (fun y=>eM pd.params[k] y) pd.params j hjl;rw [hT] at hany;simp [go_sem,f2,f1,f6,f7,f5,f9,f8,hjk];refine qx.intro (by kernel_rfl) ?_;cases T with
    |true =>
     rw [Bool.true_or] at hany;simp [go_sem,f2,f1,f6,f7,f5,f9,f8,hjk,hjl,hlt,wj];exact Keep.mk' ⟨by simp [go_sem,f2],by simp [go_sem,f1],by simp [go_sem,f6],by simp [go_sem,f7],by simp [go_sem,f5],by simp [go_sem],by rw [hany];simp [go_sem],by simp [go_sem,fm]⟩
    |false =>
     rw [Bool.false_or] at hany;by_cases hq:pd.params[j].1=pd.params[k].1
     ·have hany2:(pd.params.take (j+1)).any (fun y=>eM pd.params[k] y)=true:=by rw [hany];exact decide_eq_true hq.symm
      simp [go_sem,f2,f1,f6,f7,f5,f9,f8,hjk,hjl,hlt,wj,hq];exact Keep.mk' ⟨by simp [go_sem,f2],by simp [go_sem,f1],by simp [go_sem,f6],by simp [go_sem,f7],by simp [go_sem,f5],by simp [go_sem],by rw [hany2];simp [go_sem],by simp [go_sem,fm]⟩
     ·have hany2:(pd.params.take (j+1)).any (fun y=>eM pd.params[k] y)=false:=by rw [hany];exact decide_eq_false fun e=>hq e.symm
      simp [go_sem,f2,f1,f6,f7,f5,f9,f8,hjk,hjl,hlt,wj,zL hq];exact Keep.mk' ⟨by simp [go_sem,f2],by simp [go_sem,f1],by simp [go_sem,f6],by simp [go_sem,f7],by simp [go_sem,f5],by simp [go_sem],by rw [hany2];simp [go_sem],by simp [go_sem,fm]⟩
   ·have hje:j=k:=by omega
    subst hje;rw [hT] at hnx;cases T with
    |true =>
     simp [go_sem,f2,f1,f6,f7,f5,f9,f8,fm];refine uC (ys:=[(41,0)]) ho (by simp [zf]) (by simp;omega) fun av' m' ho' hm'=>?_
     simp [go_sem,f2,f1,f6,f7,wi];exact ⟨hlt,Keep.mk' ⟨by simp [go_sem,f2],by simp [go_sem,f1],by simp [go_sem,f6],by simp [go_sem],by rw [hnx,ZN,←zW];simpa [go_sem,uA] using ho'⟩⟩
    |false =>
     simp [go_sem,f2,f1,f6,f7,f5,f9,f8,fm,wi];exact ⟨hlt,Keep.mk' ⟨by simp [go_sem,f2],by simp [go_sem,f1],by simp [go_sem,f6],by simp [go_sem],by rw [hnx,ZN];simpa [go_sem,uA,f5,fm] using ho⟩⟩
  ·have hke:k=pd.params.length:=by omega
   subst hke;rw [y5 (by rw [yQ];exact qB _)] at ho hlen;simp [go_sem,e2,e1,e6,e7,h5];refine qx.intro (by kernel_rfl) ?_;simp [go_sem,e2,e1,e6,e7,h5,hi,hpp,jt];refine qc.pure c1 wk ?_;by_cases hd0:D.1=0
   ·have hrp:rp D=[]:=if_pos hd0
    rw [hrp];simp [go_sem,h5,hd0];exact rdDg (ZO ho _)
   ·have hrp:rp D=[D]:=if_neg hd0
    rw [hrp];simp [go_sem,h5,hd0];refine uC (ys:=[D]) (ZO ho _) (by simp [zf]) (by simp only [zr,List.length_singleton];omega) fun av' m' ho' hm'=>?_
    simp [go_sem];rw [zW] at ho';exact rdDg ho'
theorem gQ (f:Nat→List Dg) (n:Nat):(List.range (n+1)).flatMap f=(List.range n).flatMap f++f n:=by
 rw [List.range_succ,List.flatMap_append];simp only [u9,List.flatMap_nil,ye]
theorem qhS (ts:TS) (h:okTS ts) (wp:∀ p,p∈ts.preds→WfN p.body) (wf:∀ f,f∈ts.facts→WfN f.2) (dp:∀ p,p∈ts.preds→depN p.body≤24) (df:∀ f,f∈ts.facts→depN f.2≤24):qt Tryz.prog 15 [eTS ts] (lDg (jf ts)):=by
 have hnp:=h.np;have hnf:=h.nfa;have hD:(dups (repL eS ts.sorts)++dups (repL eF ts.fields)).length≤10:=by
  have a1:=Y16.jz (repL eS ts.sorts);have a2:=Y16.jz (repL eF ts.fields);rw [yQ] at a1 a2;have:=h.ns;have:=h.nf;rw [zr];omega
 have hC:jf ts=(dups (repL eS ts.sorts)++dups (repL eF ts.fields))++((List.range ts.preds.length).flatMap (je ts)++(List.range ts.facts.length).flatMap (jK ts ts.facts)):=by
  unfold jf;rw [zW]
 rw [hC];have hdc:=qhP ts h [];generalize dups (repL eS ts.sorts)++dups (repL eF ts.fields)=D0 at *
 refine qSQ Tryz.call15 Tryz.func15 rfl {} ?_;simp [go_sem];refine qc.eff0 hdc (fun r m hr=>?_) (fun r m hr=>?_)
 case refine_2 =>
  obtain ⟨av,e,_⟩:=hr;cases e
 obtain ⟨av0,e,ho0,_⟩:=hr;cases e;simp [go_sem];refine qD.upK ts.preds.length (fun i st=>st.tm 1 = .ip (cTS ts)∧st.tm 4=aI i∧OwnF 0 st.mu 2 (st.tm 3) ((D0++(List.range i).flatMap (je ts)).map cDg)) ?_ ?_
 ·exact ⟨by simp [go_sem],by simp [go_sem],by simpa [go_sem] using ho0⟩
 rintro i st hi ⟨e1,e4,ho⟩;have hlen:=Y16.Qi (je ts) (Y16.Ve h) i;generalize h3:st.tm 3=av at *
 by_cases hlt:i<ts.preds.length
 ·have hnx:=gQ (je ts) i
  have hp1:=Y16.Ve h i;have hdf:=qhR ts h wp i hlt (dp _ (qJ hlt));have wi:IntKind.i64.wrap ((i:Int)+1)=(i:Int)+1:=qy (by omega) (by omega);generalize je ts i=PD at *
  simp [go_sem,e1,e4,h3,hlt];refine qc.pure hdf (.cons (.hf (zq ts)) (.cons (.hf (HF.sc _)) .nil)) ?_;simp [go_sem,e1,e4,h3,hlt];refine uC (ys:=PD) ho (by simp [zf]) (by simp only [zr];omega) fun av' m' ho' hm'=>?_
  simp [go_sem,e1,e4,wi];exact ⟨hlt,Keep.mk' ⟨by simp [go_sem,e1],by simp [go_sem],by rw [hnx,←zW];simpa [go_sem] using ho'⟩⟩
 ·have hie:i=ts.preds.length:=by omega
  subst hie;simp [go_sem,e1,e4,h3];generalize (List.range ts.preds.length).flatMap (je ts)=P0 at *
  refine qD.upK ts.facts.length (fun i st=>st.tm 1 = .ip (cTS ts)∧st.tm 5=aI i∧OwnF 0 st.mu 2 (st.tm 3) (((D0++P0)++(List.range i).flatMap (jK ts ts.facts)).map cDg)) ?_ ?_
  ·exact ⟨by simp [go_sem,e1],by simp [go_sem],by simpa [go_sem,h3] using ho⟩
  clear ho e1 e4 h3 hlt hi st;rintro i st hi ⟨e1,e4,ho⟩;have hlen2:=Y16.Qi (jK ts ts.facts) (Y16.Wq ts ts.facts) i;generalize h3:st.tm 3=av2 at *
  by_cases hlt:i<ts.facts.length
  ·have hnx:=gQ (jK ts ts.facts) i
   have hfd:jK ts ts.facts i=dups [(ts.facts.take i).any (fun y=>eA ts.facts[i] y)]++rp (yK ts [] ts.facts[i].2):=by
    unfold jK;rw [qX hlt];simp only;rw [kY,qX hlt]
   rw [hfd] at hnx;have cf:=Xa ts h wp [] ⟨by simp,by simp⟩ (by simp) ts.facts[i].2 (wf _ (qJ hlt)) (df _ (qJ hlt));have wi:IntKind.i64.wrap ((i:Int)+1)=(i:Int)+1:=qy (by omega) (by omega);generalize yK ts [] ts.facts[i].2=D at *
   simp [go_sem,e1,e4,h3,hlt];refine qD.upK i (fun k st2=>st2.tm 1 = .ip (cTS ts)∧st2.tm 5=aI i∧st2.tm 3=av2∧st2.tm 7=aI k∧st2.tm 6=aB ((ts.facts.take k).any fun y=>eA ts.facts[i] y)∧st2.mu=st.mu) ?_ ?_
   ·exact ⟨by simp [go_sem,e1],by simp [go_sem,e4],by simp [go_sem,h3],by simp [go_sem],by simp [go_sem],by simp [go_sem]⟩
   rintro k st2 hk ⟨f1,f4,f3,f6,f5,fm⟩;generalize hT:(ts.facts.take k).any (fun y=>eA ts.facts[i] y)=T at *
   by_cases hki:k<i
   ·have hkl:k<ts.facts.length:=by omega
    have wk:IntKind.i64.wrap ((k:Int)+1)=(k:Int)+1:=qy (by omega) (by omega);have hany:=VE (fun y=>eA ts.facts[i] y) ts.facts k hkl;rw [hT] at hany;simp [go_sem,f1,f4,f3,f6,f5,hki];refine qx.intro (by kernel_rfl) ?_;cases T with
    |true =>
     rw [Bool.true_or] at hany;simp [go_sem,f1,f4,f3,f6,f5,hki,hkl,hlt,wk];exact Keep.mk' ⟨by simp [go_sem,f1],by simp [go_sem,f4],by simp [go_sem,f3],by simp [go_sem],by rw [hany];simp [go_sem],by simp [go_sem,fm]⟩
    |false =>
     rw [Bool.false_or] at hany;by_cases hq:ts.facts[k].1=ts.facts[i].1
     ·have hany2:(ts.facts.take (k+1)).any (fun y=>eA ts.facts[i] y)=true:=by rw [hany];exact decide_eq_true hq.symm
      simp [go_sem,f1,f4,f3,f6,f5,hki,hkl,hlt,wk,hq];exact Keep.mk' ⟨by simp [go_sem,f1],by simp [go_sem,f4],by simp [go_sem,f3],by simp [go_sem],by rw [hany2];simp [go_sem],by simp [go_sem,fm]⟩
     ·have hany2:(ts.facts.take (k+1)).any (fun y=>eA ts.facts[i] y)=false:=by rw [hany];exact decide_eq_false fun e=>hq e.symm
      simp [go_sem,f1,f4,f3,f6,f5,hki,hkl,hlt,wk,zL hq];exact Keep.mk' ⟨by simp [go_sem,f1],by simp [go_sem,f4],by simp [go_sem,f3],by simp [go_sem],by rw [hany2];simp [go_sem],by simp [go_sem,fm]⟩
   ·have hke:k=i:=by omega
    subst hke;rw [hT] at hnx;have wkf:WKs [eTS ts,.lst true [],eNd ts.facts[k].2] [eTS ts,lPm [],eNd ts.facts[k].2] := .cons (.hf (zq ts)) (.cons (WK.lst fun r hr=>absurd hr zb) (.cons (.hf (qO _)) .nil));have hrw:=Yp;cases T with
    |true =>
     simp [go_sem,f1,f4,f3,f6,f5,fm];refine uC (ys:=[(41,0)]) ho (by simp [zf]) (by simp only [zr,List.length_singleton];omega) fun av' m' ho' hm'=>?_
     simp [go_sem,f1,f4,wi];refine qx.intro (by kernel_rfl) ?_;simp [go_sem,f1,f4,wi,hlt];refine qc.pure cf wkf ?_;by_cases hd0:D.1=0
     ·have hrp:rp D=[]:=if_pos hd0
      rw [hrp,ye] at hnx;simp [go_sem,f1,f3,f4,wi,hd0,fm];exact ⟨hlt,Keep.mk' ⟨by simp [go_sem,f1],by simp [go_sem],by rw [hnx,←zW];simpa [go_sem,uA] using ZO ho' (.arr [aI 0,aI D.2])⟩⟩
     ·have hrp:rp D=[D]:=if_neg hd0
      rw [hrp] at hnx;simp [go_sem,f1,f3,f4,wi,hd0,fm];refine uC (ys:=[D]) (ZO ho' _) (by simp [zf]) (by simp only [zr,List.length_singleton];omega) fun av2' m2' ho2' hm2'=>?_
      simp [go_sem,f1,f4,wi];exact ⟨hlt,Keep.mk' ⟨by simp [go_sem,f1],by simp [go_sem],by rw [hnx,←zW];simpa [go_sem,uA,zW] using ho2'⟩⟩
    |false =>
     simp [go_sem,f1,f4,f3,f6,f5,fm,wi];refine qx.intro (by kernel_rfl) ?_;simp [go_sem,f1,f4,f3,f6,f5,fm,wi,hlt];refine qc.pure cf wkf ?_;by_cases hd0:D.1=0
     ·have hrp:rp D=[]:=if_pos hd0
      rw [hrp,ye] at hnx;simp [go_sem,f1,f3,f4,wi,hd0,fm];exact ⟨hlt,Keep.mk' ⟨by simp [go_sem,f1],by simp [go_sem],by rw [hnx,←zW];simpa [go_sem,uA,f3] using ZO ho (.arr [aI 0,aI D.2])⟩⟩
     ·have hrp:rp D=[D]:=if_neg hd0
      rw [hrp] at hnx;simp [go_sem,f1,f3,f4,wi,hd0,fm];refine uC (ys:=[D]) (ZO ho _) (by simp [zf]) (by simp only [zr,List.length_singleton];omega) fun av2' m2' ho2' hm2'=>?_
      simp [go_sem,f1,f4,wi];exact ⟨hlt,Keep.mk' ⟨by simp [go_sem,f1],by simp [go_sem],by rw [hnx,←zW];simpa [go_sem,uA,zW] using ho2'⟩⟩
  ·have hie:i=ts.facts.length:=by omega
   subst hie;simp [go_sem,e1,e4,h3];rw [zW] at ho;exact rdDg ho
end Go.Proofs.YtcfopdccdeeleaaGreatDoor.QU


namespace Go.Proofs.YtcfopdccdeeleaaGreatDoor.QP
open Go Go.Ev Go.Proofs Go.Proofs.YtcfopdccdeeleaaGreatDoor YM YF YV YW Y9 Y10 Y1 Y2 Y3 P1 P2 PA PB QD QE QF QG QH QI QJ QK QL QM QN QO
def tupN (k:Kd) (m:Nat):List (List Int):=((List.range m).filter (qA k).2).map (dig k.ar)
theorem qhT:∀ i,i<4→∀ j,j<4→i<j→dig 1 i<dig 1 j:=by decide +kernel
theorem qhU:∀ i,i<16→∀ j,j<16→i<j→dig 2 i<dig 2 j:=by decide +kernel
theorem qhV:∀ i,i<64→∀ j,j<64→i<j→dig 3 i<dig 3 j:=by decide +kernel
theorem qhW {p:Int} (h:1≤p∧p≤3) {i j:Nat} (hj:j<szA p) (hij:i<j):dig p i<dig p j:=by
 rcases (show p=1∨p=2∨p=3 by omega) with rfl | rfl | rfl
 ·exact qhT i (by have:j<4:=hj;omega) j hj hij
 ·exact qhU i (by have:j<16:=hj;omega) j hj hij
 ·exact qhV i (by have:j<64:=hj;omega) j hj hij
theorem qhX {ns:Nat} {k:Kd} (h:okKd ns k) (hns:ns≤4):tupN k (szA k.ar)=Zs k:=by
 have har:=h.ar;have hlt:(tupN k (szA k.ar)).Pairwise (·<·):=by
  unfold tupN;refine List.pairwise_map.2 ((List.Pairwise.filter _ List.pairwise_lt_range).imp_of_mem fun {a b} ha hb hab=>?_);have:=(jL.1 hb).1;rw [List.mem_range] at this;exact qhW har this hab
 have hnd:(k.ts.map (rowT k)).Nodup:=by
  refine List.pairwise_map.2 (h.nd.imp_of_mem fun {a b} ha hb hne e=>hne ?_);obtain ⟨l,rfl,hl,_⟩:=h.ts a ha;obtain ⟨l',rfl,hl',_⟩:=h.ts b hb;rw [Vz hl (by omega),Vz hl' (by omega)] at e;rw [e]
 have hperm:(tupN k (szA k.ar)).Perm (k.ts.map (rowT k)):=by
  refine (List.perm_ext_iff_of_nodup (hlt.imp fun h e=>?_) hnd).2 fun x=>?_
  ·subst e;exact List.lt_irrefl _ h
  ·unfold tupN
   rw [qE,qE];constructor
   ·rintro ⟨j,hj,rfl⟩
    obtain ⟨h1,h2⟩:=jL.1 hj;rw [List.mem_range] at h1;rw [yw] at h2;exact ⟨_,h2.2,Vz (ui (by omega) j) (by have:=ui (k:=k.ar) (by omega) j;omega)⟩
   ·rintro ⟨t,ht,rfl⟩
    obtain ⟨j,hj,e⟩:=Qm h hns ht;refine ⟨j,jL.2 ⟨List.mem_range.2 hj,(yw k j).2 ⟨hj,by rw [←e];exact ht⟩⟩,?_⟩;rw [e,Vz (ui (by omega) j) (by have:=ui (k:=k.ar) (by omega) j;omega)]
 unfold Zs;exact kD hperm (hlt.imp fun h=>by rw [Yy];exact List.not_lt.2 (List.le_of_lt h))
end Go.Proofs.YtcfopdccdeeleaaGreatDoor.QP


namespace Go.Proofs.YtcfopdccdeeleaaGreatDoor.QV
open Go Go.Ev Go.Proofs Go.Proofs.YtcfopdccdeeleaaGreatDoor YM YF YV YW YZ Y9 Y10 Y1 Y2 Y3 Y14 Y15 P1 P2 PA PB QD QE QF QG QH QI QJ QK QL QM QN PG QO QP QR QS QT QU
abbrev rT (l:List Int):List AV:=[.lst true (l.map rI)]
theorem gR (L:List (List Int)):zC 1 (L.map rT):=fun r hr=>by
 obtain ⟨l,_,rfl⟩:=qE.1 hr;exact ⟨rfl,rfl⟩
theorem qhY (l:List Int):∀ r,r∈l.map rI→∀ c,c∈r→HF c:=fun r hr c hc=>by
 obtain ⟨x,_,rfl⟩:=qE.1 hr;rw [zj] at hc;subst hc;exact HF.sc _
theorem rd_rT {mu:Mu} (l:List Int):Rd mu (.lst true (l.map rI)) (lI l) := .wk _ true _ (.hf _ (HF.lst (qhY l)))
theorem Xc:∀ L:List (List Int),(L.map rT).flatten=L.map fun l=>AV.lst true (l.map rI)
 | []=>rfl
 |a :: L=>by rw [List.map_cons,List.flatten_cons,Xc L];rfl
theorem gS:∀ L:List (List Int),(L.map rL).flatten=L.map lI
 | []=>rfl
 |a :: L=>by rw [List.map_cons,List.flatten_cons,gS L];rfl
theorem rdT {lo:Nat} {mu:Mu} {av:AV} {L:List (List Int)} (h:OwnF lo mu 1 av (L.map rT)):Rd mu av (lL L):=by
 have hk:∀(k:Nat) x y,(L.map rT).flatten[k]?=some x→(L.map rL).flatten[k]?=some y→Rd mu x y:=fun k x y hx hy=>by
  rw [Xc,zM] at hx;rw [gS,zM] at hy;cases hq:L[k]? with
  |none=>rw [hq] at hx;simp at hx
  |some l=>rw [hq] at hx hy;simp at hx hy;subst hx;subst hy;exact rd_rT l
 rcases h.1 with rfl | ⟨b,rfl,hc⟩
 ·refine .wk _ true _ (.lst true _ _ (by simp) (fun k x y hx hy=>?_) hk)
  rw [zM] at hx hy;cases hq:L[k]? with
  |none=>rw [hq] at hx;simp at hx
  |some l=>rw [hq] at hx hy;simp at hx hy;subst hx;subst hy;rfl
 ·refine .sl b 1 0 _ (L.map rT).flatten (L.map rL) hc ?_ (by simp) (fun r hr=>?_) (fun k x y hx hy=>hk k x y (by rw [Nat.zero_add] at hx;exact hx) hy)
  ·rw [Xc];simp
  ·obtain ⟨x,_,rfl⟩:=qE.1 hr
   rfl
theorem appT {mu:Mu} {lo:Nat} {s x:AV} {xs ys:List (List Int)} {K:AV→Mu→Prop} (ho:OwnF lo mu 1 s (xs.map rT)) (hx:zf mu x=some (ys.map rT)) (hl:xs.length+ys.length≤100000) (kk:∀ av mu',OwnF lo mu' 1 av ((xs++ys).map rT)→(∀ i,i<lo→mu'[i]?=mu[i]?)→K av mu') :
  zo Tryz.prog mu #[38,38] s x K:=by
 refine zo.ownF (lo:=lo) (e:=52) (sz:=1) (bt:=24) (zv := .lst true []) (xs:=xs.map rT) (ys:=ys.map rT) (by simp [go_sem]) (by simp [go_sem]) (by simp [go_sem]) rfl rfl (by omega) (by omega) ho hx (gR xs) (gR ys) (by simp;omega) ?_;intro av mu' h h2;exact kk av mu' (by rw [List.map_append];exact h) h2
abbrev tupR (s:RS) (m:Nat):List (List Int):=((List.range m).filter s.2).map (dig s.1)
theorem qhZ (s:RS) (m:Nat):(tupR s m).length≤m:=by
 rw [jn];exact yZ (List.length_filter_le ..) (by simp)
theorem qh0 (s:RS) (m:Nat):tupR s (m+1)=tupR s m++if s.2 m=true then [dig s.1 m] else []:=by
 unfold tupR;rw [List.range_succ,List.filter_append,List.map_append];cases h:s.2 m<;>simp [h]
theorem qh1 (s:RS) (h:1≤s.1∧s.1≤3):qt Tryz.prog 49 [eRS s] (lL (tupR s (szA s.1))):=by
 refine qSQ Tryz.call49 Tryz.func49 rfl {} ?_;have h64:=ZG s.1;simp [go_sem,qm];refine ⟨qV _,?_⟩;refine qD.upK (szA s.1) (fun i st=>st.tm 1 = .ip (cRS s)∧st.tm 4=aI i∧OwnF 0 st.mu 1 (st.tm 3) ((tupR s i).map rT)) ?_ ?_
 ·exact ⟨by simp [go_sem],by simp [go_sem],by simp [go_sem];exact OwnF.nil (by simp)⟩
 rintro i st hi ⟨e1,e4,ho⟩;have hl:=qhZ s i;generalize h3:st.tm 3=av at *
 simp [go_sem,e1,e4,h3,qm];refine qc.pure (YQ s.1) (.cons (.hf (HF.sc _)) .nil) ?_;by_cases hlt:i<szA s.1
 ·have hs:=qh0 s i
  have hlt64:i<64:=by omega
  have hlt':(i:Int)<64:=by omega
  have m2:=d0 s.2 i hlt64;have w1:IntKind.i64.wrap ((i:Int)+1)=(i:Int)+1:=qy (by omega) (by omega);have w4:IntKind.i64.wrap ((i:Int) / 4)=((i / 4:Nat):Int):=by rw [show ((i:Int) / 4)=((i / 4:Nat):Int) from rfl];exact qy (by omega) (by omega)
  have w16:IntKind.i64.wrap ((i:Int) / 16)=((i / 16:Nat):Int):=by rw [show ((i:Int) / 16)=((i / 16:Nat):Int) from rfl];exact qy (by omega) (by omega)
  have t4:(i:Int).tmod 4=((i % 4:Nat):Int):=rfl;have t44:((i / 4:Nat):Int).tmod 4=((i / 4 % 4:Nat):Int):=rfl;have hi2:1≤64-i:=by omega
  simp [go_sem,e1,e4,h3,qm,hlt,hlt64,hlt',hi2,m2];cases ha:s.2 i with
  |false =>
   rw [ha] at hs;simp [go_sem,e1,e4,h3,qm,w1];exact ⟨hlt,Keep.mk' ⟨by simp [go_sem,e1],by simp [go_sem],by rw [hs];simpa [go_sem,h3] using ho⟩⟩
  |true =>
   rw [ha,if_pos rfl] at hs;rcases (show s.1=1∨s.1=2∨s.1=3 by omega) with hr | hr | hr
   all_goals
    rw [hr] at hs;simp [go_sem,e1,e4,h3,qm,hr,w4,w16,t4,t44];refine appT (ys:=[dig s.1 i]) ho (by simp [zf,dig,hr];try exact Int.tmod_eq_emod_of_nonneg (by omega)) (by simp only [List.length_singleton];omega) fun av' m' ho' hm'=>?_
    simp [go_sem,e1,e4,w1];exact ⟨by rw [←hr];exact hlt,Keep.mk' ⟨by simp [go_sem,e1],by simp [go_sem],by rw [hs];simpa [go_sem,hr] using ho'⟩⟩
 ·have hie:i=szA s.1:=by omega
  subst hie;simp [go_sem,e1,e4,h3];exact rdT ho
theorem qh2 (ts:TS) (h:okTS ts) (wp:∀ p,p∈ts.preds→WfN p.body) (env:List (ByteArray×Int)) (he:vB ts.sorts.length env) (hel:env.length≤1000) (n:Nd) (hw:WfN n) (hd:depN n≤24) :
  qt Tryz.prog 17 [eTS ts,lPm env,eNd n] (.tup [lL (yo ts env n).1,aI (yo ts env n).2]):=by
 have hns:=h.ns;have hs:=Zq he;have hbl:(zQ env).length=env.length:=by
  have:=congrArg List.length (VC env);rw [Ji] at this;simpa [envV] using this.symm
 obtain ⟨S,ce,hSq⟩:=W9 (ckR ts ts.preds.length) (ZM h (qB _)) 24 n hd hw (zQ env) hs (by omega) false;have cv:=envU env hel (fun p hp=>by have:=he.r p hp;omega);rw [VC] at cv;have c2:=gu ts h wp;refine qSQ Tryz.call17 Tryz.func17 rfl {} ?_;by_cases h20:20≤n.op
 ·simp [go_sem,h20,yo]
  exact Vh [] 43
 ·have hK:kd n.op=101:=by
   have:1≤n.op∧n.op≤15:=by
    have hsh:=hw.shape;unfold shp at hsh
    repeat' split at hsh
    all_goals first
     |omega
     | (cases hsh;done)
   unfold kd;rw [if_pos this]
  have hcase:(∃ e,exam (ckR ts ts.preds.length) (zQ env) false n = .error e∧¬e.1=0∧yo ts env n=([],e.1))∨(∃ q,exam (ckR ts ts.preds.length) (zQ env) false n = .ok (some q)∧S=qA q∧1≤q.ar∧q.ar≤3∧yo ts env n=(tupR S (szA S.1),0)):=by
   have hR:=gN h (qB _) n (zQ env) false;cases hx:exam (ckR ts ts.preds.length) (zQ env) false n with
   |error e =>
    refine .inl ⟨e,rfl,?_,?_⟩
    ·have:=PG.uz _ (szN n) n _ _ e (qB _) hx
     omega
    ·unfold yo
     rw [if_neg h20,←hR,hx]
   |ok ko =>
    obtain ⟨q,rfl,hok⟩:=vR (ZM h (qB _)) (szN n) n _ _ ko (qB _) hw hs hx hK;have hS:=hSq hK q hx;have hok:okKd ts.sorts.length q:=hok;have har:=hok.ar;refine .inr ⟨q,rfl,hS,har.1,har.2,?_⟩;unfold yo;rw [if_neg h20,←hR,hx,hS];simp only;rw [←qhX hok hns];rfl
  generalize exam (ckR ts ts.preds.length) (zQ env) false n=X at *
  simp [go_sem,h20];refine qx.seg [0,1,3,4,5,7,9,2,6,8,10,11,12,13,14,15,16,17] [(0,0,[]),(1,0,[]),(3,0,[]),(4,0,[]),(5,0,[]),(7,0,[]),(9,0,[]),(2,1,[0,4,5,9]),(6,0,[]),(8,1,[0,4,5,9]),(10,1,[]),(11,0,[]),(12,0,[]),(13,0,[]),(14,2,[0,1,4,5,9]),(15,2,[0,1,4,5,9]),(16,1,[]),(17,1,[])] (by kernel_rfl) (by kernel_rfl) (by simp [go_sem]) ?_;simp [go_sem];refine qc.pure c2 (.cons (.hf (zq ts)) .nil) ?_;simp [go_sem];refine qc.pure cv (.cons (.hf (jJ env)) .nil) ?_;simp [go_sem];refine qc.pure ce (wkE (ckR ts ts.preds.length) false _ n) ?_;simp [go_sem,qm,QE.tk,pc];rw [if_pos (qV _)];generalize hP:putCells _ 0 (cRS S)=P;have hP2:P=cRS S:=by rw [←hP];exact pc (aI 0) _ (fun _=>false) _
  subst hP2;clear hP;rcases hcase with ⟨e,rfl,he,ht⟩ | ⟨q,rfl,hS,a1,a2,ht⟩
  ·rw [ht]
   simp [go_sem,qm,QE.tk,pc,dgOf,he];refine qx.intro (by kernel_rfl) ?_;simp [go_sem];exact Vh _ e.1
  ·rw [ht]
   have ct:=qh1 S (by rw [hS];exact ⟨a1,a2⟩);simp [go_sem,qm,QE.tk,pc,dgOf];refine qc.pure ct (.cons (.hf (yp S)) .nil) ?_;simp [go_sem];exact kG (.hf _ (Yh _)) 0
end Go.Proofs.YtcfopdccdeeleaaGreatDoor.QV


namespace Go.Proofs.YtcfopdccdeeleaaGreatDoor.PD
open Go Go.Ev Go.Proofs Go.Proofs.YtcfopdccdeeleaaGreatDoor YM YS YF P1 P2 Y1 Y2 Y3 Y4 Y5 Y9 Y10 Y12 Y14 Y16 YX YZ YA YB PA YC YE YG Q1 Q3 Q4 Q6 PB PC
end Go.Proofs.YtcfopdccdeeleaaGreatDoor.PD


namespace Go.Proofs.YtcfopdccdeeleaaGreatDoor.PE
open Go Go.Ev Go.Proofs Go.Proofs.YtcfopdccdeeleaaGreatDoor YM YS YF P1 P2 Y1 Y2 Y3 Y4 Y5 Y9 Y10 Y12 Y13 Y14 Y16 YX YZ YA YB PA YC YE YG Q1 Q3 Q4 Q6 PB PC PD
theorem qh3 {n:Nd} (hw:WfN n) (h:n.op=1):n.kids=[]:=by
 have hs:=hw.shape;unfold shp at hs;rw [if_pos (.inl h)] at hs;simp only [Option.some.injEq] at hs;exact List.map_eq_nil_iff.1 hs.symm
theorem gK {n:Nd} (hw:WfN n) (h:n.op=47):∀ k,k∈n.kids→kd k.op=101:=by
 have hsh:=hw.shape;have e:shp n.op n.kids.length=some (List.replicate (min n.kids.length 401) 101):=by
  unfold shp;rw [if_neg (by omega),if_neg (by omega),if_neg (by omega),if_neg (by omega),if_neg (by omega),if_neg (by omega),if_neg (by omega),if_pos h]
 rw [e] at hsh;simp only [Option.some.injEq] at hsh;intro k hk;have:kd k.op∈n.kids.map fun k=>kd k.op:=qE.2 ⟨k,hk,rfl⟩
 rw [←hsh] at this;exact List.eq_of_mem_replicate this
theorem W8 {n:Nd} (hw:WfN n) (h:n.op=15∨n.op=45∨n.op=46):∃ a f,n.kids=[a,f]∧kd a.op=101:=by
 have hs:=hw.shape;unfold shp at hs;rw [if_neg (by omega),if_neg (by omega),if_neg (by omega),if_pos (by omega)] at hs;simp only [Option.some.injEq] at hs
 match hk:n.kids,hs with
 | [a,f],hs =>
  simp at hs;exact ⟨a,f,rfl,hs.1.symm⟩
 | [],hs=>simp at hs
 | [_],hs=>simp at hs
 |_ :: _ :: _ :: _,hs=>simp at hs
end Go.Proofs.YtcfopdccdeeleaaGreatDoor.PE


namespace Go.Proofs.YtcfopdccdeeleaaGreatDoor.PF
open Go Go.Ev Go.Proofs Go.Proofs.YtcfopdccdeeleaaGreatDoor YM YS YF P1 P2 Y1 Y2 Y3 Y4 Y5 Y9 Y10 Y12 Y13 Y14 Y16 YX YZ YA YB PA YC YE YG Q1 Q2 Q3 Q4 Q6 PB PC PD PE PG
mutual
theorem Xd:∀(n:Nd) (left:Int),cntT n≤left→cntN n left=cntT n
 | .mk op nm i ks p,left,h=>by
  simp only [cntT,cntN] at h ⊢;exact gT ks left 1 h
theorem gT:∀(ks:List Nd) (left sum:Int),sum+yX ks≤left→yR ks left sum=sum+yX ks
 | [],left,sum,h=>by simp only [yX,yR];omega
 |k :: ks,left,sum,h=>by
  simp only [yX,yR] at h ⊢;have h1:=WH k;have h2:=Vu ks;rw [if_pos (by omega),Xd k (left-sum) (by omega),gT ks left _ (by omega)];omega
end
mutual
theorem gU:∀(n:Nd) (left:Int),cntN n left≤left→cntT n≤left
 | .mk op nm i ks p,left,h=>by
  simp only [cntT,cntN] at h ⊢;exact gV ks left 1 h
theorem gV:∀(ks:List Nd) (left sum:Int),yR ks left sum≤left→sum+yX ks≤left
 | [],left,sum,h=>by simp only [yX,yR] at h ⊢;omega
 |k :: ks,left,sum,h=>by
  simp only [yX,yR] at h ⊢;split at h
  ·have h1:=(Wt ks left (sum+cntN k (left-sum))).1
   have h2:cntN k (left-sum)≤left-sum:=by omega
   have h3:=Xd k (left-sum) (gU k _ h2);have h4:=gV ks left _ h;omega
  ·omega
end
theorem qh4 {ks:List Nd} {d:Int} (h0:0≤d) (h:∀ k,k∈ks→depN k≤d):ym ks≤d:=by
 induction ks with
 |nil=>simp only [ym];omega
 |cons a l ih =>
  simp only [ym];have h1:=h a (zG ..);have h2:=ih fun k hk=>h k (zt _ hk)
  omega
theorem qh5 {ks:List Nd} {lv:Int} (h:∀ k,k∈ks→forN k lv=true):ud ks lv=true:=by
 induction ks with
 |nil=>rfl
 |cons a l ih =>
  simp only [ud,Bool.and_eq_true];exact ⟨h a (zG ..),ih fun k hk=>h k (zt _ hk)⟩
theorem gW:∀(m:Nat) (n:Nd) (lv:Int),szN n≤m→WfN n→OwnT n→depN n≤lv→forN n lv=true
 | 0,n,_,hm,_,_,_=>by obtain ⟨op,nm,i,ks,p⟩:=n;simp [szN] at hm
 |m+1,n,lv,hm,hw,ho,hd=>by
  have h1:=gF n;rw [Vk,if_neg (by omega),ho n (Vo n),Bool.true_and,Bool.and_eq_true];refine ⟨?_,qh5 fun k hk=>gW m k (lv-1) (by have:=yu hk;omega) (hw.kid hk) (ho.kid hk) ?_⟩
  ·unfold fitB
   rw [decide_eq_true_eq];exact hw.shape
  ·have:=gE hk
   rw [wv] at hd;omega
theorem gX:∀(m:Nat) (n:Nd) (lv:Int),szN n≤m→forN n lv=true→OwnT n∧depN n≤lv
 | 0,n,_,hm,_=>by obtain ⟨op,nm,i,ks,p⟩:=n;simp [szN] at hm
 |m+1,n,lv,hm,h=>by
  rw [Vk] at h;split at h
  ·cases h
  ·rename_i hl
   simp only [Bool.and_eq_true] at h;obtain ⟨h1,h2,h3⟩:=h;have ih:=fun k (hk:k∈n.kids)=>gX m k (lv-1) (by have:=yu hk;omega) (kN h3 k hk)
   refine ⟨fun x hx=>?_,?_⟩
   ·rw [ww] at hx
    rcases qK.1 hx with rfl | hx
    ·exact h1
    ·obtain ⟨k,hk,hx⟩:=W7 hx
     exact (ih k hk).1 x hx
   ·rw [wv]
    have:=qh4 (ks:=n.kids) (d:=lv-1) (by omega) fun k hk=>(ih k hk).2
    omega
theorem Qn {n:Nd}:yj n=true↔WfN n∧OwnT n∧cntT n≤400∧depN n≤24:=by
 constructor
 ·intro h
  have hw:=vd h;simp only [yj,Bool.and_eq_true,decide_eq_true_eq] at h;obtain ⟨a,b⟩:=gX (szN n) n 24 (qB _) h.2;exact ⟨hw,a,gU n 400 h.1,b⟩
 ·rintro ⟨h1,h2,h3,h4⟩
  simp only [yj,Bool.and_eq_true,decide_eq_true_eq];exact ⟨by rw [Xd n 400 h3];exact h3,gW (szN n) n 24 (qB _) h1 h2 h4⟩
theorem gY {c:Ck} {nm:ByteArray} {i:Nat} (h:zJ c nm=some i) (hp:i<c.ts.preds.length):(c.ts.preds.find? fun p=>decide (p.name=nm))=some c.ts.preds[i]:=by
 unfold zJ at h;rw [List.findIdx?_eq_some_iff_getElem] at h;obtain ⟨hi,a1,a2⟩:=h;rw [List.find?_eq_some_iff_getElem];refine ⟨?_,i,hp,rfl,fun j hj=>?_⟩
 ·have:=a1
  simp only [List.getElem_take] at this;exact this
 ·have:=a2 j hj
  simp only [List.getElem_take] at this;simpa using this
theorem gZ {c:Ck} {s:Scp} {pos:Int}:∀{ks:List Nd} {ps:List (ByteArray×Int)} {ko:Option Kd},ps.length=ks.length→yc c s pos ps ks = .ok ko→∀ k,k∈ks→∃ a,exam c s true k = .ok a
 | [],_,_,_,_,k,hk=>absurd hk zb
 |k :: ks,[],_,hl,_,_,_=>by simp at hl
 |k :: ks,p :: ps,ko,hl,h,x,hx=>by
  simp only [yc] at h;split at h
  ·cases h
  ·cases h
  ·rename_i a hk
   split at h
   ·split at h
    ·rcases qK.1 hx with rfl | hx
     ·exact ⟨_,hk⟩
     ·exact gZ (by simpa using hl) h x hx
    ·cases h
   ·cases h
theorem Xe {c:Ck} {s:Scp} {inn:Bool}:∀{ks:List Nd} {l:List (Option Kd)},zB c s inn ks = .ok l→∀ k,k∈ks→∃ a,exam c s inn k = .ok a
 | [],_,_,k,hk=>absurd hk zb
 |k :: ks,l,h,x,hx=>by
  simp only [zB] at h;split at h
  ·cases h
  ·rename_i a hk
   split at h
   ·cases h
   ·rename_i l' hl
    rcases qK.1 hx with rfl | hx
    ·exact ⟨_,hk⟩
    ·exact Xe hl x hx
theorem Xf {c:Ck} (hc:okCk c):∀(m:Nat) (n:Nd) (s:Scp) (inn:Bool) (ko:Option Kd),szN n≤m→exam c s inn n = .ok ko→WfN n→yv c.ts n
 | 0,n,_,_,_,hm,_,_=>by obtain ⟨op,nm,i,ks,p⟩:=n;simp [szN] at hm
 |m+1,n,s,inn,ko,hm,h,hw=>fun x hx ho=>by
  have ih:∀ k,k∈n.kids→∀ s inn ko,exam c s inn k = .ok ko→yv c.ts k:=fun k hk s inn ko h=>Xf hc m k s inn ko (by have:=yu hk;omega) h (hw.kid hk)
  rw [vA] at h;rw [ww] at hx;split at h
  ·cases h
  by_cases h1:n.op=1
  ·rw [qh3 hw h1] at hx
   rcases qK.1 hx with rfl | hx
   ·omega
   ·simp [zz] at hx
  rw [if_neg h1] at h;have hkid:∀(s:Nd→Scp) (inn:Nd→Bool),(∀ k,k∈n.kids→∃ ko,exam c (s k) (inn k) k = .ok ko)→x∈zz n.kids→∃ p,(c.ts.preds.find? fun p=>decide (p.name=x.name))=some p∧p.params.length=x.kids.length:=fun s inn hk hx=>by
   obtain ⟨k,hkk,hx⟩:=W7 hx;obtain ⟨ko,hko⟩:=hk k hkk;exact ih k hkk _ _ _ hko x hx ho
  by_cases h47:n.op=47
  ·rw [if_pos h47] at h
   split at h
   ·split at h
    ·cases h
    ·rename_i i hcal
     obtain ⟨_,hp2⟩:=Qd hc hcal;rw [qX hp2] at h;simp only at h;split at h
     ·rename_i hlen
      rcases qK.1 hx with rfl | hx
      ·exact ⟨_,gY hcal hp2,hlen⟩
      ·exact hkid (fun _=>s) (fun _=>true) (gZ hlen h) hx
     ·cases h
   ·cases h
  rw [if_neg h47] at h;have hx:x∈zz n.kids:=by
   rcases qK.1 hx with rfl | hx
   ·exact absurd ho h47
   ·exact hx
  by_cases hb:n.op=15∨n.op=45∨n.op=46
  ·rw [if_pos hb] at h
   obtain ⟨a,g,hks,_⟩:=W8 hw hb;rw [hks] at h;simp only [yU] at h;split at h
   ·cases h
   ·cases h
   ·rename_i k hk
    split at h
    ·split at h
     ·cases h
     ·rename_i l hl
      obtain ⟨y,hy,hx⟩:=W7 hx;rw [hks] at hy;rcases qK.1 hy with rfl | hy
      ·exact ih y (by rw [hks];simp) _ _ _ hk x hx ho
      ·rw [zj] at hy
       subst hy;obtain ⟨b,hb⟩:=Xe hl y (by simp);exact ih y (by rw [hks];simp) _ _ _ hb x hx ho
    ·cases h
  ·rw [if_neg hb] at h
   split at h
   ·cases h
   ·rename_i l hl
    exact hkid (fun _=>s) (fun _=>_) (fun k hk=>Xe hl k hk) hx
theorem g7 {c:Ck} {env:List (ByteArray×Int)} {n:Nd} (h:(jd c env n).1=0):30≤n.op∧∃ ko,exam c (zQ env) false n = .ok ko:=by
 unfold jd at h;split at h
 ·rename_i h30
  refine ⟨h30,?_⟩;cases hx:exam c (zQ env) false n with
  |ok ko=>exact ⟨ko,rfl⟩
  |error e =>
   rw [hx] at h;have:=PG.uz c (szN n) n _ _ e (qB _) hx;have h:e.1=0:=h;omega
 ·have h:(43:Int)=0:=h
  omega
theorem qh6 {ts:TS} (h:jf ts=[]) (i:Nat) (hi:i<ts.preds.length):(jd (mkCk ts i) ts.preds[i].params ts.preds[i].body).1=0:=by
 unfold jf at h;simp only [List.append_eq_nil_iff] at h;have:=h.2.2.1;rw [List.flatMap_eq_nil_iff] at this;have:=this i (List.mem_range.2 hi);unfold je at this;rw [qX hi] at this;simp only [List.append_eq_nil_iff] at this;have:=this.2.2;unfold rp at this;split at this
 ·assumption
 ·cases this
theorem g8 (l:List Nd):∀ es:List (ByteArray×Bool),(putN es l).length≤es.length+l.length:=by
 have hs:∀(es:List (ByteArray×Bool)) (k:ByteArray),(setK k true es).length≤es.length+1:=by
  intro es k;induction es with
  |nil=>simp [setK]
  |cons a es ih=>unfold setK;split<;>simp<;>omega
 induction l with
 |nil=>intro es;simp [putN]
 |cons a l ih =>
  intro es;have:=ih (setK a.name true es);have:=hs es a.name;show (putN (setK a.name true es) l).length≤_;simp only [List.length_cons];omega
mutual
theorem Jk:∀ n:Nd,((preN n).length:Int)=cntT n
 | .mk op nm i ks p=>by simp only [preN,cntT,List.length_cons];have:=g9 ks;omega
theorem g9:∀ ks:List Nd,((zz ks).length:Int)=yX ks
 | []=>rfl
 |k :: ks=>by simp only [zz,yX,zr];have:=Jk k;have:=g9 ks;omega
end
theorem na {ts:TS} (h:okTS ts) (hb:∀ p,p∈ts.preds→yj p.body=true) {n:Nd} (hn:yj n=true):qC ts (yY ts n)≤200000:=by
 have h1:∀(l:List Pd) (es:List (ByteArray×Bool)),(∀ p,p∈l→yj p.body=true)→(l.foldl (fun es p=>putN es (preN p.body)) es).length≤es.length+400*l.length:=by
  intro l;induction l with
  |nil=>intro es _;simp
  |cons a l ih =>
   intro es hv;have a1:=ih (putN es (preN a.body)) fun p hp=>hv p (zt _ hp)
   have a2:=g8 (preN a.body) es;have a3:=Jk a.body;have a4:=(Qn.1 (hv a (zG ..))).2.2.1;rw [List.foldl_cons];simp only [List.length_cons];omega
 have a1:=h1 ts.preds (putN [] (preN n)) hb;have a2:=g8 (preN n) [];have a3:=Jk n;have a4:=(Qn.1 hn).2.2.1;have:=h.np;have:=h.nf;have:=h.ns;unfold qC yY;simp only [List.length_nil] at a2;omega
end Go.Proofs.YtcfopdccdeeleaaGreatDoor.PF


namespace Go.Proofs.YtcfopdccdeeleaaGreatDoor.QW
open Go Go.Ev Go.Proofs Go.Proofs.YtcfopdccdeeleaaGreatDoor YM YS YF Y9 Y10 Y1 Y2 Y3 Y4 YX YZ YA YB YC YE YG YH P1 P2 PA QD QE QK QV
abbrev rNm (b:ByteArray):List AV:=[aS b]
abbrev lNm (l:List ByteArray):AV := .lst false (l.map rNm)
def namL (n:Nd):List ByteArray:=((preN n).filter fun x=>decide (x.name≠⟨#[]⟩)).map Nd.name
def jZ (l:List Nd):List ByteArray:=((zz l).filter fun x=>decide (x.name≠⟨#[]⟩)).map Nd.name
theorem qh7 (n:Nd):namL n=(if n.name=⟨#[]⟩ then [] else [n.name])++jZ n.kids:=by
 unfold namL jZ;rw [ww,List.filter_cons];by_cases h:n.name=⟨#[]⟩
 ·simp [h]
 ·simp [h]
theorem Zu:∀ a b:List Nd,zz (a++b)=zz a++zz b
 | [],b=>rfl
 |x :: a,b=>by rw [List.cons_append];simp only [zz];rw [Zu a b,zW]
theorem qh8 (a:List Nd) (k:Nd):jZ (a++[k])=jZ a++namL k:=by
 unfold jZ namL;rw [Zu];simp [zz]
theorem qh9 (l:List Nd):(jZ l).length≤(zz l).length:=by
 unfold jZ;rw [jn];exact List.length_filter_le ..
theorem VF (n:Nd):(namL n).length≤(preN n).length:=by
 unfold namL;rw [jn];exact List.length_filter_le ..
theorem Xg (l:List ByteArray):zC 1 (l.map rNm):=fun r hr=>by
 obtain ⟨x,_,rfl⟩:=qE.1 hr;exact ⟨rfl,rfl⟩
theorem nc (l:List ByteArray):HF (lNm l):=HF.lst fun r hr c hc=>by
 obtain ⟨x,_,rfl⟩:=qE.1 hr;rw [zj] at hc;subst hc;exact HF.sc _
theorem rdNm {lo:Nat} {mu:Mu} {av:AV} {l:List ByteArray} (h:OwnF lo mu 1 av (l.map rNm)):Rd mu av (lNm l):=
 h.1.rd (Xg l).ok fun r hr c hc=>by
  obtain ⟨x,_,rfl⟩:=qE.1 hr;rw [zj] at hc;subst hc;exact HF.sc _
theorem appNm {mu:Mu} {lo:Nat} {s x:AV} {xs ys:List ByteArray} {K:AV→Mu→Prop} (ho:OwnF lo mu 1 s (xs.map rNm)) (hx:zf mu x=some (ys.map rNm)) (hl:xs.length+ys.length≤1000000) (kk:∀ av mu',OwnF lo mu' 1 av ((xs++ys).map rNm)→(∀ i,i<lo→mu'[i]?=mu[i]?)→K av mu') :
  zo Tryz.prog mu #[132,132] s x K:=by
 refine zo.ownF (lo:=lo) (e:=9) (sz:=1) (bt:=16) (zv:=aS ⟨#[]⟩) (xs:=xs.map rNm) (ys:=ys.map rNm) (by simp [go_sem]) (by simp [go_sem]) (by simp [go_sem]) rfl rfl (by omega) (by omega) ho hx (Xg xs) (Xg ys) (by simp;omega) ?_;intro av mu' h h2;exact kk av mu' (by rw [List.map_append];exact h) h2
theorem qiA (l:List Nd) (k:Nat):(zz (l.take k)).length≤(zz l).length:=by
 have:zz l=zz (l.take k)++zz (l.drop k):=by rw [←Zu,List.take_append_drop]
 rw [this,zr];omega
theorem Xh:∀(m:Nat) (n:Nd),szN n≤m→Small n→∀(lo:Nat) (mu:Mu) (av:AV) (xs:List ByteArray),OwnF lo mu 1 av (xs.map rNm)→xs.length+(preN n).length≤500000 →
  qW Tryz.prog 122 [av,eNd n] mu fun e m'=>∃ av',e = .ret av'∧OwnF lo m' 1 av' ((xs++namL n).map rNm)∧∀ i,i<lo→m'[i]?=mu[i]?
 | 0,n,hm,_=>by obtain ⟨op,nm,i,ks,p⟩:=n;simp [szN] at hm
 |m+1,n,hm,hs=>by
  intro lo mu av xs ho hl;have ih:∀ k,k∈n.kids→∀(lo:Nat) (mu:Mu) (av:AV) (xs:List ByteArray),OwnF lo mu 1 av (xs.map rNm)→xs.length+(preN k).length≤500000→qW Tryz.prog 122 [av,eNd k] mu fun e m'=>∃ av',e = .ret av'∧OwnF lo m' 1 av' ((xs++namL k).map rNm)∧∀ i,i<lo→m'[i]?=mu[i]?:=fun k hk =>
   Xh m k (by have:=yu hk;omega) (hs.kid hk)
  have hlen:=hs.len;have hnl:=qh7 n;have hpn:(preN n).length=1+(zz n.kids).length:=by rw [ww,List.length_cons];omega
  refine qSW Tryz.call122 Tryz.func122 rfl {} ?_;by_cases hn:n.name=⟨#[]⟩
  case' pos =>
   rw [if_pos hn,List.nil_append] at hnl;simp [go_sem,hn];refine qD.upK n.kids.length (fun k st=>st.tm 3 = .ip (cNd n)∧st.tm 5=aI k∧OwnF lo st.mu 1 (st.tm 0) ((xs++jZ (n.kids.take k)).map rNm)∧∀ i,i<lo→st.mu[i]?=mu[i]?) ?_ ?_
   ·exact ⟨by simp [go_sem],by simp [go_sem],by simpa [go_sem,jZ,zz] using ho,by simp [go_sem]⟩
   generalize hX:xs=X at *
   have hXl:X.length+(zz n.kids).length≤500000:=by omega
   have hend:X++jZ n.kids=X++namL n:=by rw [hnl]
  case' neg =>
   rw [if_neg hn] at hnl;have hie:n.name.toList.isEmpty=false:=by simpa using zL hn
   simp [go_sem,hie];refine appNm (ys:=[n.name]) ho (by simp [zf]) (by simp only [List.length_singleton];omega) fun av' m' ho' hm'=>?_
   simp [go_sem];refine qD.upK n.kids.length (fun k st=>st.tm 3 = .ip (cNd n)∧st.tm 5=aI k∧OwnF lo st.mu 1 (st.tm 0) (((xs++[n.name])++jZ (n.kids.take k)).map rNm)∧∀ i,i<lo→st.mu[i]?=mu[i]?) ?_ ?_
   ·exact ⟨by simp [go_sem],by simp [go_sem],by simpa [go_sem,jZ,zz] using ho',by simpa [go_sem] using hm'⟩
   generalize hX:xs++[n.name]=X at *
   have hXl:X.length+(zz n.kids).length≤500000:=by rw [←hX,zr,List.length_singleton];omega
   have hend:X++jZ n.kids=xs++namL n:=by rw [hnl,←hX,zW]
  all_goals
   rintro k st hk ⟨e3,e5,ho,hm⟩;generalize h0:st.tm 0=av1 at *
   by_cases hlt:k<n.kids.length
   ·have w1:IntKind.i64.wrap ((k:Int)+1)=(k:Int)+1:=qy (by omega) (by omega)
    have hnx:jZ (n.kids.take (k+1))=jZ (n.kids.take k)++namL n.kids[k]:=by rw [wF hlt,qh8]
    have hpx:(zz (n.kids.take (k+1))).length=(zz (n.kids.take k)).length+(preN n.kids[k]).length:=by rw [wF hlt,Zu];simp [zz]
    have h1:=qiA n.kids (k+1);have h2:=qh9 (n.kids.take k);simp [go_sem,e3,e5,h0,hlt,qr];refine qc.eff0 (ih n.kids[k] (qJ hlt) lo st.mu av1 _ ho (by rw [zr];omega)) (fun r m2 hr=>?_) (fun r m2 hr=>?_)
    ·obtain ⟨av2,e,ho2,hm2⟩:=hr
     cases e;simp [go_sem,e3,e5,w1];exact ⟨hlt,Keep.mk' ⟨by simp [go_sem,e3],by simp [go_sem],by rw [hnx,←zW];simpa [go_sem] using ho2,by simp only [qT];exact fun i hi=>(hm2 i hi).trans (hm i hi)⟩⟩
    ·obtain ⟨av2,e,_⟩:=hr
     cases e
   ·have hke:k=n.kids.length:=by omega
    subst hke;rw [jC,hend] at ho;simp [go_sem,e3,e5,h0];exact ⟨by simpa using ho,hm⟩
def takL (ts:TS) (n:Nd):List ByteArray:=namL n++ts.preds.flatMap fun p=>namL p.body
theorem qiB (ts:TS) (h:okTS ts) (wp:∀ p,p∈ts.preds→WfN p.body) (n:Nd) (hw:WfN n) (hl:(preN n).length≤400) (hp:∀ p,p∈ts.preds→(preN p.body).length≤400):qt Tryz.prog 74 [eTS ts,eNd n] (lNm (takL ts n)):=by
 have hnp:=h.np;have hk:∀ i (hi:i<ts.preds.length),ts.preds.take (i+1)=ts.preds.take i++[ts.preds[i]]:=fun i hi=>wF hi
 have hfl:∀ i,((ts.preds.take i).flatMap fun p=>namL p.body).length≤400*i:=by
  intro i;induction i with
  |zero=>simp
  |succ i ih =>
   by_cases hi:i<ts.preds.length
   ·rw [hk i hi,List.flatMap_append,zr]
    have h1:=VF ts.preds[i].body;have h2:=hp _ (qJ hi);simp only [u9,List.flatMap_nil,ye];omega
   ·have e1:ts.preds.take (i+1)=ts.preds:=y5 (by omega)
    have e2:ts.preds.take i=ts.preds:=y5 (by omega);rw [e1];rw [e2] at ih;omega
 have hn:=VF n;refine qSQ Tryz.call74 Tryz.func74 rfl {} ?_;simp [go_sem];refine qc.eff0 (Xh (szN n) n (qB _) hw.small 0 [] (.lst true []) [] (OwnF.nil (by simp)) (by simp;omega)) (fun r m2 hr=>?_) (fun r m2 hr=>?_)
 case refine_2 =>
  obtain ⟨av2,e,_⟩:=hr;cases e
 obtain ⟨av0,e,ho0,_⟩:=hr;cases e;rw [List.nil_append] at ho0;simp [go_sem];refine qD.upK ts.preds.length (fun k st=>st.tm 2 = .ip (cTS ts)∧st.tm 6=aI k∧OwnF 0 st.mu 1 (st.tm 5) ((namL n++(ts.preds.take k).flatMap fun p=>namL p.body).map rNm)) ?_ ?_
 ·exact ⟨by simp [go_sem],by simp [go_sem],by simpa [go_sem] using ho0⟩
 rintro k st hk1 ⟨e2,e6,ho⟩;generalize h5:st.tm 5=av1 at *
 by_cases hlt:k<ts.preds.length
 ·have w1:IntKind.i64.wrap ((k:Int)+1)=(k:Int)+1:=qy (by omega) (by omega)
  have hnx:(ts.preds.take (k+1)).flatMap (fun p=>namL p.body)=(ts.preds.take k).flatMap (fun p=>namL p.body)++namL ts.preds[k].body:=by
   rw [hk k hlt,List.flatMap_append];simp only [u9,List.flatMap_nil,ye]
  have h1:=hfl k;have h2:=hp _ (qJ hlt);simp [go_sem,e2,e6,h5,hlt,jt];refine qc.eff0 (Xh (szN ts.preds[k].body) ts.preds[k].body (qB _) (wp _ (qJ hlt)).small 0 st.mu av1 _ ho (by rw [zr];omega)) (fun r m2 hr=>?_) (fun r m2 hr=>?_)
  ·obtain ⟨av2,e,ho2,_⟩:=hr
   cases e;simp [go_sem,e2,e6,w1];exact ⟨hlt,Keep.mk' ⟨by simp [go_sem,e2],by simp [go_sem],by rw [hnx,←zW];simpa [go_sem] using ho2⟩⟩
  ·obtain ⟨av2,e,_⟩:=hr
   cases e
 ·have hke:k=ts.preds.length:=by omega
  subst hke;rw [jC] at ho;simp [go_sem,e2,e6,h5];exact rdNm ho
def inL (nm:ByteArray) (l:List ByteArray):Bool:=l.any fun x=>decide (x=nm)
theorem Xi {nm:ByteArray} {l:List ByteArray}:inL nm l=true↔nm∈l:=by
 unfold inL;simp
theorem ng {nm:ByteArray} {l:List ByteArray} (h:¬nm∈l):inL nm l=false:=by
 cases e:inL nm l with
 |false=>rfl
 |true=>exact absurd (Xi.1 e) h
theorem hasU (l:List ByteArray) (nm:ByteArray) (hl:l.length≤1000000):qt Tryz.prog 160 [lNm l,aS nm] (aB (inL nm l)):=by
 refine qSQ Tryz.call160 Tryz.func160 rfl {} ?_;simp [go_sem];refine qD.upK l.length (fun k st=>st.tm 0=lNm l∧st.tm 1=aS nm∧st.tm 5=aI k∧∀ x,x∈l.take k→x≠nm) ?_ ?_
 ·exact ⟨by simp [go_sem],by simp [go_sem],by simp [go_sem],by simp⟩
 rintro k st hk ⟨e0,e1,e5,hI⟩;by_cases hlt:k<l.length
 ·have w1:IntKind.i64.wrap ((k:Int)+1)=(k:Int)+1:=qy (by omega) (by omega)
  by_cases hq:l[k]=nm
  ·have hd:inL nm l=true:=Xi.2 (hq ▸ qJ hlt)
   rw [hd];simp [go_sem,e0,e1,e5,hlt,hq];exact .hf _ (HF.sc _)
  ·simp [go_sem,e0,e1,e5,hlt,zL hq,w1]
   refine Keep.mk' ⟨by simp [go_sem,e0],by simp [go_sem,e1],by simp [go_sem],fun x hx=>?_⟩;rw [wF hlt,zh,zj] at hx;rcases hx with hx | rfl
   ·exact hI x hx
   ·exact hq
 ·have hke:k=l.length:=by omega
  subst hke;rw [jC] at hI;have hd:inL nm l=false:=ng fun h=>hI nm h rfl
  rw [hd];simp [go_sem,e0,e1,e5];exact .hf _ (HF.sc _)
theorem qiC (u:Nat) (h:u<10):ByteArray.empty.push (UInt8.ofNat ((48:Int)+(u:Int)).toNat)=jr u:=by
 unfold jr;rw [Lib.itoa_nonneg,Lib.decDigits_one h,show ((48:Int)+(u:Int)).toNat=48+u by omega];rfl
theorem qiD (u:Nat) (h:¬u<10):jr ((u / 10:Nat):Int)++ByteArray.empty.push (UInt8.ofNat ((48:Int)+((u % 10:Nat):Int)).toNat)=jr u:=by
 unfold jr;rw [Lib.itoa_nonneg,Lib.itoa_nonneg,Lib.decDigits.eq_1 u,dif_neg h,show ((48:Int)+((u % 10:Nat):Int)).toNat=48+u % 10 by omega];apply ByteArray.ext;simp
theorem digU:∀(m u:Nat),u≤m→u≤1000000000→qt Tryz.prog 159 [aI u] (aS (jr u))
 |m,u,hm,hu=>by
  have w1:IntKind.i64.wrap (48+(u:Int))=48+(u:Int):=qy (by omega) (by omega);refine qSQ Tryz.call159 Tryz.func159 rfl {} ?_;by_cases h:u<10
  ·have h':(u:Int)<10:=by omega
   have w2:IntKind.u8.wrap (48+(u:Int))=48+(u:Int):=IntWalk.u8_in _ ⟨by omega,by omega⟩;have hd:=qiC u h;simp [go_sem,h',w1,w2,hd];exact .hf _ (HF.sc _)
  ·have h':¬(u:Int)<10:=by omega
   have ih:=digU (u / 10) (u / 10) (qB _) (by omega);have hd:=qiD u h;simp [go_sem,h'];refine qx.intro (by kernel_rfl) ?_;have w3:IntKind.i64.wrap ((u:Int) / 10)=((u / 10:Nat):Int):=by rw [show ((u:Int) / 10)=((u / 10:Nat):Int) from rfl];exact qy (by omega) (by omega)
   have t3:(u:Int).tmod 10=((u % 10:Nat):Int):=rfl;have w4:IntKind.i64.wrap (48+((u % 10:Nat):Int))=48+((u % 10:Nat):Int):=qy (by omega) (by omega);have w5:IntKind.u8.wrap (48+((u % 10:Nat):Int))=48+((u % 10:Nat):Int):=IntWalk.u8_in _ ⟨by omega,by omega⟩;have hsz:=Wz ((u / 10:Nat):Int) (by omega) (by omega);simp [go_sem,w3];refine qc.pure ih (.cons (.hf (HF.sc _)) .nil) ?_;have c1:((u / 10:Nat):Int)=(u:Int) / 10:=rfl;have c2:((u % 10:Nat):Int)=(u:Int) % 10:=rfl;rw [c1] at hsz hd;rw [c2] at w4 w5 hd;have hs3:(jr ((u:Int) / 10)).size≤9223372036854775806:=by omega
   simp [go_sem,t3,w4,w5,hs3,hd];exact .hf _ (HF.sc _)
end Go.Proofs.YtcfopdccdeeleaaGreatDoor.QW


namespace Go.Proofs.YtcfopdccdeeleaaGreatDoor.QX
open Go Go.Ev Go.Proofs Go.Proofs.YtcfopdccdeeleaaGreatDoor YM YS YF Y9 Y10 Y1 Y2 Y3 Y4 YX YZ YA YB YC YE YG YH P1 P2 PA QD QE QK QV QW
abbrev cWk (ts:TS) (l:List ByteArray) (s:ISt):List AV:=cTS ts++[lNm l,aI s.last,aI s.cost]
abbrev eWk (ts:TS) (l:List ByteArray) (s:ISt):AV := .agg (cWk ts l s)
theorem qiE (ts:TS) (l:List ByteArray) (s:ISt):∀ c,c∈cWk ts l s→HF c:=fun c hc=>by
 rcases zh.1 hc with hc | hc
 ·exact U5 ts c hc
 ·simp only [qK,zb,or_false] at hc
  rcases hc with rfl | rfl | rfl
  ·exact nc l
  ·exact HF.sc _
  ·exact HF.sc _
theorem uD (ts:TS) (l:List ByteArray) (s:ISt):HF (eWk ts l s):=HF.agg (qiE ts l s)
structure Tn (l:List ByteArray) (es:List (ByteArray×Bool)):Prop where
 mem:∀ nm:ByteArray,nm≠⟨#[]⟩→(nm∈l↔getK nm es=some true)
 len:es.length≤l.length+1
theorem vN_ne (k:Int):vN k≠⟨#[]⟩:=fun e=>by
 have:=congrArg ByteArray.size e;unfold vN at this;rw [ByteArray.size_append] at this;have h1:(⟨#[118]⟩:ByteArray).size=1:=rfl;have h2:(⟨#[]⟩:ByteArray).size=0:=rfl;omega
theorem qiF {ts:TS} {l:List ByteArray} {es:List (ByteArray×Bool)} (t:Tn l es) (k:Int):yW ts es (vN k)=(decide ((ya ts (vN k)).length=0)&&!inL (vN k) l):=by
 unfold yW;have h1:=t.mem (vN k) (vN_ne k);have e2:decide (ya ts (vN k)=[])=decide ((ya ts (vN k)).length=0):=by
  simp [List.length_eq_zero_iff]
 rw [e2,Bool.and_comm];congr 1;by_cases hm:vN k∈l
 ·rw [Xi.2 hm];simp [h1.1 hm]
 ·rw [ng hm]
  simp only [Bool.not_false,decide_eq_true_eq];exact fun e=>hm (h1.2 e)
theorem two {α:Type} {l:List α} {a b:α} (h0:l[0]?=some a) (h1:l[1]?=some b):∃ r,l=a :: b :: r:=by
 match l,h0,h1 with
 |_ :: _ :: r,h0,h1 =>
  simp at h0 h1;exact ⟨r,by rw [h0,h1]⟩
abbrev zWk:List AV:=[.lst true [],.lst true [],.lst true [],.lst true [],.lst true [],aI 0,aI 0]
theorem qiG (ts:TS) (h:okTS ts) (l:List ByteArray) (es:List (ByteArray×Bool)) (t:Tn l es) (hl:l.length≤400000) (s:ISt) (hs:0≤s.last∧s.last+(qC ts es:Nat)≤1000000000) (hex:∃ j:Nat,1≤j∧j≤qC ts es∧yW ts es (vN (s.last+j))=true) :
  qt Tryz.prog 121 [eWk ts l s] (.tup [eWk ts l ⟨zD ts es (qC ts es) s.last,s.cost⟩,aS (vN (zD ts es (qC ts es) s.last))]):=by
 have hns:=h.ns;have hnf:=h.nf;have hF:qC ts es≤l.length+40:=by have:=t.len;unfold qC;omega
 have hnm:okNm ts:=⟨h.sl,by omega,by omega,fun f hf=>by have:=h.fl f hf;omega⟩;generalize hFe:qC ts es=F at *
 generalize hR:zD ts es F s.last=R;refine qSQ Tryz.call121 Tryz.func121 rfl { mt:=[1] } ?_;simp [go_sem];refine qD.keep (fun m st=>∃(i:Nat) (k:Int),i+m=F∧0≤k∧k+m≤1000000000∧st.tm 1 = .ptr 0 0∧st.tm 2 = .ptr 1 0∧st.tm 4=aI i∧st.mu[0]?=some (.arr (cWk ts l ⟨k,s.cost⟩))∧st.mu[1]?=some (.arr zWk)∧zD ts es m k=R∧∃ j:Nat,1≤j∧j≤m∧yW ts es (vN (k+j))=true) F ?_ ?_
 ·exact ⟨0,s.last,by omega,hs.1,by omega,by simp [go_sem],by simp [go_sem],by simp [go_sem],by simp [go_sem],by simp [go_sem],hR,hex⟩
 rintro m st ⟨i,k,him,hk0,hkm,e1,e2,e4,m0,m1,hI,j,hj1,hjm,hfr⟩;obtain ⟨m,rfl⟩:∃ m',m=m'+1:=⟨m-1,by omega⟩;obtain ⟨rr,hrr⟩:=two m0 m1;have w1:IntKind.i64.wrap (k+1)=k+1:=qy (by omega) (by omega);have w2:IntKind.i64.wrap ((l.length:Int)+40)=(l.length:Int)+40:=qy (by omega) (by omega);have w3:IntKind.i64.wrap ((i:Int)+1)=(i:Int)+1:=qy (by omega) (by omega);have hi40:(i:Int)≤(l.length:Int)+40:=by omega
 obtain ⟨u,hu⟩:∃ u:Nat,k+1=(u:Int):=⟨(k+1).toNat,by omega⟩;have cd:=digU u u (qB _) (by omega);have hsz:=Wz (u:Int) (by omega) (by omega);have hsz2:1+(jr (u:Int)).size≤9223372036854775807:=by omega
 have hv:(⟨#[118]⟩:ByteArray)++jr (u:Int)=vN (k+1):=by rw [hu];rfl
 have hfi:=qiF (ts:=ts) t (k+1);have cn:=WO ts hnm (vN (k+1));have hset:=WN ts (vN (k+1));have hk:(named ts (vN (k+1))).2=(ya ts (vN (k+1))).length:=by rw [W4 h]
 rw [hk] at cn;generalize (named ts (vN (k+1))).1=C at *
 have ch:=hasU l (vN (k+1)) (by omega);clear m0 m1;simp [go_sem,e1,e2,e4,hrr,w1,w2,hi40];refine qc.pure cd (.cons (by rw [hu];exact .hf (HF.sc _)) .nil) ?_;simp [go_sem,e1,e2,e4,hrr,w1,w2,hi40,hsz2,hv];refine qc.pure cn (.cons (.hf (zq ts)) (.cons (.hf (HF.sc _)) .nil)) ?_;simp [go_sem,e1,e2,e4,hrr,w1,w2,hi40,hset.len];rw [if_pos hset.one];generalize putCells _ 0 C=PC;have next:yW ts es (vN (k+1))=false→∃ k':Int,k'=k+1∧zD ts es m k'=R∧∃ j:Nat,1≤j∧j≤m∧yW ts es (vN (k'+j))=true:=fun hn=>by
  refine ⟨k+1,rfl,?_,j-1,?_,by omega,?_⟩
  ·rw [←hI];simp only [zD];rw [if_neg (by rw [hn];simp)]
  ·have:j≠1:=fun e=>by subst e;rw [show k+((1:Nat):Int)=k+1 from rfl] at hfr;rw [hn] at hfr;cases hfr
   omega
  ·rw [show k+1+((j-1:Nat):Int)=k+j by omega];exact hfr
 by_cases hm0:ya ts (vN (k+1))=[]
 ·rw [hm0] at hfi
  simp [go_sem,e1,e2,e4,hrr,w1,w2,hi40,hm0];refine qc.pure ch (.cons (.hf (nc l)) (.cons (.hf (HF.sc _)) .nil)) ?_;cases hin:inL (vN (k+1)) l with
  |true =>
   rw [hin] at hfi;obtain ⟨k',hk',hI2,hj2⟩:=next hfi;simp [go_sem,e1,e2,e4,hrr,w1,w2,w3,hi40];exact ⟨m,by omega,Keep.mk' ⟨i+1,k+1,by omega,by omega,by omega,by simp [go_sem,e1],by simp [go_sem,e2],by simp [go_sem],by simp [go_sem],by simp [go_sem],by rw [←hk'];exact hI2,by rw [←hk'];exact hj2⟩⟩
  |false =>
   rw [hin] at hfi;have hRk:R=k+1:=by rw [←hI];simp only [zD];rw [if_pos (by rw [hfi];rfl)]
   simp [go_sem,e1,e2,e4,hrr,w1,w2,hi40];rw [hRk];exact .hf _ (HF.tup fun x hx=>by
    simp only [qK,zb,or_false] at hx;rcases hx with rfl | rfl
    ·exact uD ts l ⟨k+1,s.cost⟩
    ·exact HF.sc _)
 ·have hl0:¬(ya ts (vN (k+1))).length=0:=fun e=>hm0 (List.length_eq_zero_iff.1 e)
  rw [decide_eq_false hl0] at hfi;obtain ⟨k',hk',hI2,hj2⟩:=next hfi;simp [go_sem,e1,e2,e4,hrr,w1,w2,w3,hi40,hm0];exact ⟨m,by omega,Keep.mk' ⟨i+1,k+1,by omega,by omega,by omega,by simp [go_sem,e1],by simp [go_sem,e2],by simp [go_sem],by simp [go_sem],by simp [go_sem],by rw [←hk'];exact hI2,by rw [←hk'];exact hj2⟩⟩
abbrev Sb:=ByteArray×IV
def cAr:Option Nd→List AV
 |some a=>cNd a
 |none=>[aI 0,aS ⟨#[]⟩,aI 0,.lst true [],aI 0]
@[go_sem] theorem cAr_some (a:Nd):cAr (some a)=cNd a:=rfl
@[go_sem] theorem cAr_none:cAr none=[aI 0,aS ⟨#[]⟩,aI 0,.lst true [],aI 0]:=rfl
@[go_sem] theorem qiH (o:Option Nd):(cAr o).length=5:=by cases o<;>simp [go_sem,yk]
theorem qiI (o:Option Nd):∀ c,c∈cAr o→HF c:=by
 cases o with
 |some a=>exact jb a
 |none =>
  intro c hc;simp only [cAr,qK,zb,or_false] at hc;rcases hc with rfl | rfl | rfl | rfl | rfl
  ·exact HF.sc _
  ·exact HF.sc _
  ·exact HF.sc _
  ·exact HF.lst fun r hr=>absurd hr zb
  ·exact HF.sc _
abbrev cSb (x:Sb):List AV:=[aS x.1,aS x.2.name,aB x.2.arg.isSome]++cAr x.2.arg++[aI x.2.size]
abbrev lSb (l:List Sb):AV := .lst false (l.map cSb)
def ul (nm:ByteArray) (l:List Sb):Option IV:=l.foldl (fun r e=>if e.1=nm then some e.2 else r) none
theorem VG (nm:ByteArray) (l:List Sb) (e:Sb):ul nm (l++[e])=if e.1=nm then some e.2 else ul nm l:=by
 unfold ul;rw [List.foldl_append];rfl
theorem Xj {mu:Mu} (ts:TS) (l:List ByteArray) (s:ISt) (n:Nd) (z:Int):Rd mu (.tup [eWk ts l s,eNd n,aI z]) (.tup [eWk ts l s,eNd n,aI z]) := .hf _ (HF.tup fun x hx=>by
 simp only [qK,zb,or_false] at hx;rcases hx with rfl | rfl | rfl
 ·exact uD ts l s
 ·exact qO n
 ·exact HF.sc _)
def u6 (sc:List Sb) (n:Nd) (s:ISt):(Nd×Int)×ISt:=match ul n.name sc with
 |none=>((n,1),s)
 |some v=>match v.arg with
  |none=>((.mk n.op v.name n.n n.kids n.pos,1),s)
  |some a=>((a,v.size),payS v.size s)
theorem leafU (ts:TS) (l:List ByteArray) (sc:List Sb) (hl:sc.length≤1000000) (n:Nd) (s:ISt) (hs:0≤s.cost∧s.cost≤1000000) (hz:∀ e,e∈sc→0≤e.2.size∧e.2.size≤1000000) :
  qt Tryz.prog 119 [eWk ts l s,lSb sc,eNd n] (.tup [eWk ts l (u6 sc n s).2,eNd (u6 sc n s).1.1,aI (u6 sc n s).1.2]):=by
 unfold u6;generalize hR:ul n.name sc=R;have wl:IntKind.i64.wrap ((sc.length:Int)-1)=(sc.length:Int)-1:=qy (by omega) (by omega);refine qSQ Tryz.call119 Tryz.func119 rfl { mt:=[3,5] } ?_;simp [go_sem,wl,qr];refine qD.keep (fun m st=>m≤sc.length∧st.tm 1=lSb sc∧st.tm 3 = .ptr 0 0∧st.tm 5 = .ptr 1 0∧st.tm 6 = .ptr 2 0∧st.tm 7 = .ptr 3 0∧st.tm 9=aI ((m:Int)-1)∧st.mu=[.arr (cWk ts l s),.arr (cNd n),.arr zWk,.arr [aI 0,aS ⟨#[]⟩,aI 0,.lst true [],aI 0]]∧ul n.name (sc.take m)=R) sc.length ?_ ?_
 ·exact ⟨qB _,by simp [go_sem],by simp [go_sem],by simp [go_sem],by simp [go_sem],by simp [go_sem],by simp [go_sem],by simp [go_sem,qr],by rw [jC];exact hR⟩
 rintro m st ⟨hml,e1,e3,e5,e6,e7,e9,hm,hI⟩;cases m with
 |zero =>
  have hR0:R=none:=by rw [←hI];rfl
  subst hR0;simp [go_sem,e1,e3,e5,e6,e7,e9,hm,qr];refine qx.seg [0,1,4,2,3] [(0,0,[]),(1,0,[]),(4,0,[]),(2,1,[1]),(3,1,[])] (by kernel_rfl) (by kernel_rfl) (by simp [go_sem]) ?_;simp [go_sem,e1,e3,e5,e6,e7,e9,hm,qr];exact Xj ts l s n 1
 |succ m =>
  have hlt:m<sc.length:=by omega
  have hge:(0:Int)≤((m+1:Nat):Int)-1:=by omega
  have hidx:((m+1:Nat):Int)-1=(m:Int):=by omega
  rw [hidx] at e9;rw [wF hlt,VG] at hI;have w1:IntKind.i64.wrap ((m:Int)-1)=(m:Int)-1:=qy (by omega) (by omega);have hzz:=hz _ (qJ hlt);generalize hse:sc[m]=e at *
  by_cases hq:e.1=n.name
  ·rw [if_pos hq] at hI
   subst hI;have w2:IntKind.i64.wrap (s.cost+e.2.size)=s.cost+e.2.size:=qy (by omega) (by omega);simp [go_sem,e1,e3,e5,e6,e7,e9,hm,qr,hlt];refine qx.intro (by kernel_rfl) ?_;simp [go_sem,e1,e3,e5,e6,e7,e9,hm,qr,hlt,hse,hq];cases ha:e.2.arg with
   |none =>
    simp [go_sem,e1,e3,e5,e6,e7,e9,hm,qr,hlt,hse,hq,ha];refine qx.seg [0,1,4,2,3] [(0,0,[]),(1,0,[]),(4,0,[]),(2,1,[1]),(3,1,[])] (by kernel_rfl) (by kernel_rfl) (by simp [go_sem]) ?_;have hset:(cNd n).set 1 (AV.sc (.string e.2.name))=cNd (.mk n.op e.2.name n.n n.kids n.pos):=by rw [yk n,yk];rfl
    rw [hset];simp [go_sem,e1,e3,e5,e6,e7,e9,hm,qr];exact Xj ts l s _ 1
   |some a =>
    simp [go_sem,e1,e3,e5,e6,e7,e9,hm,qr,hlt,hse,hq,ha];refine qx.seg [0,1,2,3,4,5,6,7,8,9] [(0,0,[]),(1,0,[]),(2,0,[]),(3,0,[]),(4,0,[]),(5,0,[]),(6,0,[]),(7,0,[]),(8,0,[]),(9,1,[])] (by kernel_rfl) (by kernel_rfl) (by simp [go_sem]) ?_;simp [go_sem,e1,e3,e5,e6,e7,e9,hm,qr,hlt,hse,hq,ha,w2];refine qx.seg [0,1,2,3,4,5,6,7,8,9,10,13,11,12] [(0,0,[]),(1,0,[]),(2,0,[]),(3,0,[]),(4,0,[]),(5,0,[]),(6,0,[]),(7,0,[]),(8,0,[]),(9,0,[]),(10,0,[]),(13,0,[]),(11,1,[5,10]),(12,1,[10])] (by kernel_rfl) (by kernel_rfl) (by simp [go_sem]) ?_;simp [go_sem,e1,e3,e5,e6,e7,e9,hm,qr,hlt,hse,hq,ha,w2];exact Xj ts l (payS e.2.size s) a e.2.size
  ·rw [if_neg hq] at hI
   simp [go_sem,e1,e3,e5,e6,e7,e9,hm,qr,hlt];refine qx.intro (by kernel_rfl) ?_;simp [go_sem,e1,e3,e5,e6,e7,e9,hm,qr,hlt,hse,zL hq,w1];exact ⟨m,by omega,Keep.mk' ⟨by omega,by simp [go_sem,e1],by simp [go_sem,e3],by simp [go_sem,e5],by simp [go_sem,e6],by simp [go_sem,e7],by simp [go_sem],by simp [go_sem,hm],hI⟩⟩
theorem Xk:∀(m:Nat) (n:Nd),szN n≤m→Small n→depN n≤1000000→qt Tryz.prog 75 [eNd n] (aI (depN n))
 | 0,n,hm,_,_=>by obtain ⟨op,nm,i,ks,p⟩:=n;simp [szN] at hm
 |m+1,n,hm,hs,hd=>by
  have ih:∀ k,k∈n.kids→qt Tryz.prog 75 [eNd k] (aI (depN k)):=fun k hk =>
   Xk m k (by have:=yu hk;omega) (hs.kid hk) (by rw [wv] at hd;have:=k5 hk;omega)
  rw [wv] at hd ⊢;have hlen:=hs.len;have hnn:=Vm n.kids;generalize hD:ym n.kids=D at *
  refine qSQ Tryz.call75 Tryz.func75 rfl {} ?_;simp [go_sem];refine qD.upK n.kids.length (fun k st=>∃ d,st.tm 3=aI d∧st.tm 1 = .ip (cNd n)∧st.tm 4=aI k∧0≤d∧max d (ym (n.kids.drop k))=D) ?_ ?_
  ·exact ⟨0,by simp [go_sem],by simp [go_sem],by simp [go_sem],by omega,by simp only [List.drop_zero,hD];omega⟩
  ·rintro k st hk ⟨d,e3,e1,e4,hd0,hI⟩
   by_cases hkl:k=n.kids.length
   ·subst hkl
    rw [List.drop_length] at hI;simp only [ym] at hI;have hdD:d=D:=by omega
    subst hdD;have w:IntKind.i64.wrap (d+1)=d+1:=qy (by omega) (by omega);simp [go_sem,e3,e1,e4,w];exact .hf _ (HF.sc _)
   ·have hlt:k<n.kids.length:=by omega
    have w1:IntKind.i64.wrap ((k:Int)+1)=(k:Int)+1:=qy (by omega) (by omega);rw [zA hlt] at hI;simp only [ym] at hI;simp [go_sem,e3,e1,e4,hlt,qr];refine qc.pure (ih n.kids[k] (qJ hlt)) (.cons (.hf (qO _)) .nil) ?_;simp [go_sem,e3,e1,e4,w1];refine ⟨hlt,Keep.mk' ?_⟩;refine ⟨if d<depN n.kids[k] then depN n.kids[k] else d,by simp [go_sem],by simp [go_sem,e1],by simp [go_sem],?_,?_⟩
    ·have:=kZ n.kids[k]
     split<;>omega
    ·split<;>omega
end Go.Proofs.YtcfopdccdeeleaaGreatDoor.QX


namespace Go.Proofs.YtcfopdccdeeleaaGreatDoor.QY
open Go Go.Ev Go.Proofs Go.Proofs.YtcfopdccdeeleaaGreatDoor YM YS YF Y9 Y10 Y1 Y2 Y3 Y4 YX YZ YA YB YC YE YG YH P1 P2 PA QD QE QK QV QW QX
structure ScOf (ts:TS) (body:Bool) (sc:List Sb) (env:IEnv):Prop where
 look:∀ nm,ul nm sc=getK nm env
 own:body=false→∀ nm v,getK nm env=some v→ya ts nm≠[]
 sz:∀ e,e∈sc→0≤e.2.size∧e.2.size≤4000
def OutR (r:XR (Nd×Int)) (s':ISt) (n':Nd) (z:Int):Prop:=match r with
 | .ok ((m,y),t)=>n'=m∧z=y∧s'=t
 | .error _=>4000<s'.cost∧s'.cost≤9000∧0≤z∧z≤4000
def renR (ts:TS) (es:List (ByteArray×Bool)) (sc:List Sb) (nm:ByteArray) (body:Bool) (s:ISt):(List Sb×ByteArray)×ISt:=
 if body=true∨ya ts nm≠[] then
  ((sc++[(nm,⟨none,0,vN (zD ts es (qC ts es) s.last)⟩)],vN (zD ts es (qC ts es) s.last)),⟨zD ts es (qC ts es) s.last,s.cost⟩)
 else ((sc,nm),s)
abbrev XO:=ISt×Nd×Int
def vH (E:Nd→ISt→XO):List (ByteArray×Int)→List Nd→List Sb→ISt→Except ISt (List Sb×ISt)
 |p :: ps,k :: ks,own,s=>if 4000<(E k s).1.cost then .error (E k s).1 else vH E ps ks (own++[(p.1,⟨some (E k s).2.1,(E k s).2.2,⟨#[]⟩⟩)]) (E k s).1
 |_,_,own,s => .ok (own,s)
def vV (E:List Sb→Nd→ISt→XO) (R:List Sb→ByteArray→ISt→(List Sb×ByteArray)×ISt) (bin:Bool):Nat→List Sb→ByteArray→List Nd→ISt→Except ISt ((ByteArray×List Nd×Int)×ISt)
 |_,_,nm,[],s => .ok ((nm,[],0),s)
 |i,sc,nm,k :: ks,s =>
  let r:=if bin=true∧i=1 then R sc nm s else ((sc,nm),s)
  let q:=E r.1.1 k r.2
  if 4000<q.1.cost then .error q.1 else match vV E R bin (i+1) r.1.1 r.1.2 ks q.1 with
   | .error e => .error e
   | .ok ((nm',ks',m'),s'') => .ok ((nm',q.2.1 :: ks',q.2.2+m'),s'')
def expR (ts:TS) (es:List (ByteArray×Bool)):Nat→List Sb→Nd→Bool→ISt→XO
 | 0,_,n,_,s=>(s,n,0)
 |f+1,sc,n,body,s =>
  if s.cost+1≤4000 then
   if n.op=1 then ((u6 sc n (payS 1 s)).2,(u6 sc n (payS 1 s)).1.1,(u6 sc n (payS 1 s)).1.2)
   else if n.op=47 then match ts.preds.find? fun p=>decide (p.name=n.name) with
    |none=>(payS 1 s,n,1)
    |some p=>match vH (fun k s=>expR ts es f sc k body s) p.params n.kids [] (payS 1 s) with
     | .error s'=>(s',nd0,0)
     | .ok (own,s')=>expR ts es f own p.body true s'
   else match vV (fun sc k s=>expR ts es f sc k body s) (fun sc nm s=>renR ts es sc nm body s) (binB n.op) 0 sc n.name n.kids (payS 1 s) with
    | .error s'=>(s',nd0,0)
    | .ok ((nm,ks,m),s')=>(s',.mk n.op nm n.n ks n.pos,1+m)
  else (payS 1 s,nd0,0)
theorem VH {F:Nat} {s s':ISt} {z:Int} (g:Gos F s s' z) (h:StOk F s):StOk F s'∧s.cost≤s'.cost∧z≤4000:=⟨g.ok h,by have:=g.cz;have:=g.z0;omega,by have:=g.cz;have:=g.c1;have:=h.c0;omega⟩
theorem nh {F f:Nat} {E:Nd→ISt→XR (Nd×Int)} {E':Nd→ISt→XO}:∀(ps:List (ByteArray×Int)) (ks:List Nd) (own:IEnv) (ownL:List Sb) (s:ISt),
  (∀ k,k∈ks→∀ s,StOk F s→4000<s.cost+(f:Int)→OutR (E k s) (E' k s).1 (E' k s).2.1 (E' k s).2.2)→(∀ k n' z s s',k∈ks→StOk F s→E k s = .ok ((n',z),s')→Gos F s s' z) →
  StOk F s→4000<s.cost+(f:Int)→zI own→(∀ nm,ul nm ownL=getK nm own)→(∀ e,e∈ownL→0≤e.2.size∧e.2.size≤4000) →
  match jv E ps ks own s with
  | .error _=>∃ t,vH E' ps ks ownL s = .error t∧4000<t.cost∧t.cost≤9000
  | .ok (own',s')=>∃ ownL',vH E' ps ks ownL s = .ok (ownL',s')∧zI own'∧(∀ nm,ul nm ownL'=getK nm own')∧(∀ e,e∈ownL'→0≤e.2.size∧e.2.size≤4000)∧StOk F s'∧s.cost≤s'.cost
 | [],ks,own,ownL,s,_,_,hs,_,ho,hl,hz=>by simp only [jv,vH];exact ⟨ownL,rfl,ho,hl,hz,hs,Qq _⟩
 |p :: ps,[],own,ownL,s,_,_,hs,_,ho,hl,hz=>by simp only [jv,vH];exact ⟨ownL,rfl,ho,hl,hz,hs,Qq _⟩
 |p :: ps,k :: ks,own,ownL,s,hE,hG,hs,hf,ho,hl,hz=>by
  simp only [jv,vH];have h1:=hE k (zG ..) s hs hf;have h2:=fun n' z s'=>hG k n' z s s' (zG ..) hs
  generalize E' k s=Q at *
  cases hq:E k s with
  |error d =>
   rw [hq] at h1;simp only;rw [if_pos h1.1];exact ⟨_,rfl,h1.1,h1.2.1⟩
  |ok r =>
   obtain ⟨⟨m,y⟩,t⟩:=r;rw [hq] at h1;obtain ⟨e1,e2,e3⟩:=h1;have g:=h2 m y t hq;obtain ⟨g1,g2,g3⟩:=VH g hs;have hc:=g.c1;simp only;rw [if_neg (by rw [e3];omega),e1,e2,e3];have ih:=nh (F:=F) (f:=f) ps ks (setK p.1 ⟨some m,y,⟨#[]⟩⟩ own) (ownL++[(p.1,⟨some m,y,⟨#[]⟩⟩)]) t (fun k hk=>hE k (zt _ hk)) (fun k n' z s s' hk=>hG k n' z s s' (zt _ hk)) g1 (by omega) (ho.set ⟨g.z0,g3⟩) (fun nm=>by
    rw [VG,Zl,hl];by_cases e:p.1=nm
    ·rw [if_pos e,if_pos e.symm]
    ·rw [if_neg e,if_neg fun x=>e x.symm]) (fun e he=>by
    rcases zh.1 he with he | he
    ·exact hz e he
    ·rw [zj] at he;subst he;exact ⟨g.z0,g3⟩)
   cases hx:jv E ps ks (setK p.1 ⟨some m,y,⟨#[]⟩⟩ own) t with
   |error d=>rw [hx] at ih;exact ih
   |ok r =>
    obtain ⟨own',s'⟩:=r;rw [hx] at ih;obtain ⟨L,a1,a2,a3,a4,a5,a6⟩:=ih;exact ⟨L,a1,a2,a3,a4,a5,by omega⟩
theorem nj {ts:TS} {es:List (ByteArray×Bool)} {env:IEnv} {sc:List Sb} {nm:ByteArray} {body:Bool} {s:ISt} (he:zI env) (h:ScOf ts body sc env) :
  ScOf ts body (renR ts es sc nm body s).1.1 (renI ts es env nm body s).1.1∧(renR ts es sc nm body s).1.2=(renI ts es env nm body s).1.2∧(renR ts es sc nm body s).2=(renI ts es env nm body s).2:=by
 unfold renR renI;by_cases hc:body=true∨ya ts nm≠[]
 ·rw [if_pos hc,if_pos hc]
  refine ⟨⟨fun x=>?_,fun hb x v hx=>?_,fun e hm=>?_⟩,rfl,rfl⟩
  ·simp only
   rw [VG,Zl,Ym he.nd,h.look];by_cases e:nm=x
   ·rw [if_pos e,if_pos e.symm]
   ·rw [if_neg e,if_neg fun y=>e y.symm,if_neg fun y=>e y.symm]
  ·simp only at hx
   rw [Zl,Ym he.nd] at hx;by_cases e:x=nm
   ·rw [e]
    rcases hc with hc | hc
    ·rw [hc] at hb;cases hb
    ·exact hc
   ·rw [if_neg e,if_neg e] at hx
    exact h.own hb x v hx
  ·rcases zh.1 hm with hm | hm
   ·exact h.sz e hm
   ·rw [zj] at hm;subst hm;exact ⟨by simp,by simp⟩
 ·rw [if_neg hc,if_neg hc]
  refine ⟨⟨fun x=>?_,fun hb x v hx=>?_,h.sz⟩,rfl,rfl⟩
  ·simp only
   rw [Ym he.nd,h.look];by_cases e:x=nm
   ·rw [if_pos e]
    cases hg:getK x env with
    |none=>rfl
    |some v =>
     have hb:body=false:=by cases body<;>simp_all
     exact absurd (h.own hb x v hg) (by rw [e];exact fun y=>hc (.inr y))
   ·rw [if_neg e]
  ·simp only at hx
   rw [Ym he.nd] at hx;split at hx
   ·cases hx
   ·exact h.own hb x v hx
theorem nq {ts:TS} {es:List (ByteArray×Bool)} (hfr:Free ts es) {f:Nat} {body:Bool} {E:IEnv→Nd→ISt→XR (Nd×Int)} {E':List Sb→Nd→ISt→XO} {bin:Bool}:∀(ks:List Nd) (i:Nat) (env:IEnv) (sc:List Sb) (nm:ByteArray) (s:ISt),
  (∀ k,k∈ks→∀ env sc s,StOk (qC ts es) s→4000<s.cost+(f:Int)→zI env→ScOf ts body sc env→OutR (E env k s) (E' sc k s).1 (E' sc k s).2.1 (E' sc k s).2.2) →
  (∀ env k n' z s s',k∈ks→StOk (qC ts es) s→zI env→E env k s = .ok ((n',z),s')→Gos (qC ts es) s s' z) →
  0≤s.last→0≤s.cost→s.cost≤4000→dueN (qC ts es) bin i≤pot (qC ts es) s→4000<s.cost+(f:Int)→zI env→ScOf ts body sc env →
  match jl E (fun env nm s=>renI ts es env nm body s) bin i env nm ks s with
  | .error _=>∃ t,vV E' (fun sc nm s=>renR ts es sc nm body s) bin i sc nm ks s = .error t∧4000<t.cost∧t.cost≤9000
  | .ok r=>vV E' (fun sc nm s=>renR ts es sc nm body s) bin i sc nm ks s = .ok r
 | [],i,env,sc,nm,s,_,_,_,_,_,_,_,_,_=>by simp only [jl,vV]
 |k :: ks,i,env,sc,nm,s,hE,hG,l0,c0,c1,hp,hf,he,hsc=>by
  simp only [jl,vV];obtain ⟨r,hr⟩:∃ r,(if bin=true∧i=1 then renI ts es env nm body s else ((env,nm),s))=r:=⟨_,rfl⟩;obtain ⟨r',hr'⟩:∃ r',(if bin=true∧i=1 then renR ts es sc nm body s else ((sc,nm),s))=r':=⟨_,rfl⟩;have hR:ScOf ts body r'.1.1 r.1.1∧r'.1.2=r.1.2∧r'.2=r.2∧zI r.1.1∧StOk (qC ts es) r.2∧r.2.cost=s.cost∧dueN (qC ts es) bin (i+1)≤pot (qC ts es) r.2:=by
   by_cases hb:bin=true∧i=1
   ·rw [if_pos hb] at hr hr'
    subst hr;subst hr';obtain ⟨a1,a2,a3⟩:=nj (es:=es) (nm:=nm) (s:=s) he hsc;have a4:=Vp (ts:=ts) (es:=es) (nm:=nm) (body:=body) (s:=s) he;obtain ⟨b1,b2,b3⟩:=Vq (body:=body) (nm:=nm) (env:=env) hfr l0;have hd:dueN (qC ts es) bin i=(qC ts es:Int):=by unfold dueN;rw [if_pos ⟨hb.1,by omega⟩]
    have hd2:dueN (qC ts es) bin (i+1)=0:=by unfold dueN;rw [if_neg (by omega)]
    rw [hd] at hp;have hpot:0≤pot (qC ts es) (renI ts es env nm body s).2:=by
     unfold pot at hp ⊢;rw [b3];omega
    exact ⟨a1,a2,a3,a4,⟨b1,by rw [b3];exact c0,by rw [b3];exact c1,hpot⟩,b3,by rw [hd2];exact hpot⟩
   ·rw [if_neg hb] at hr hr'
    subst hr;subst hr';have hd:dueN (qC ts es) bin (i+1)≤dueN (qC ts es) bin i:=by
     unfold dueN;split
     ·rename_i h
      rw [if_pos ⟨h.1,by omega⟩];exact Qq _
     ·split<;>omega
    have hd0:0≤dueN (qC ts es) bin i:=by unfold dueN;split<;>omega
    exact ⟨hsc,rfl,rfl,he,⟨l0,c0,c1,by show 0≤pot (qC ts es) s;omega⟩,rfl,by show _≤pot (qC ts es) s;omega⟩
  rw [hr,hr'];obtain ⟨q1,q2,q3,q4,q5,q6,q7⟩:=hR;rw [q2,q3];have h1:=hE k (zG ..) r.1.1 r'.1.1 r.2 q5 (by omega) q4 q1;have h2:=fun n' z s'=>hG r.1.1 k n' z r.2 s' (zG ..) q5 q4
  generalize E' r'.1.1 k r.2=Q at *
  cases hq:E r.1.1 k r.2 with
  |error d =>
   rw [hq] at h1;simp only;rw [if_pos h1.1];exact ⟨_,rfl,h1.1,h1.2.1⟩
  |ok x =>
   obtain ⟨⟨m,y⟩,t⟩:=x;rw [hq] at h1;obtain ⟨e1,e2,e3⟩:=h1;have g:=h2 m y t hq;obtain ⟨g1,g2,g3⟩:=VH g q5;have hc:=g.c1;have hgp:=g.p;simp only;rw [if_neg (by rw [e3];omega),e1,e2,e3];have ih:=nq hfr (f:=f) (body:=body) (E:=E) (E':=E') (bin:=bin) ks (i+1) r.1.1 r'.1.1 r.1.2 t (fun k hk=>hE k (zt _ hk)) (fun env k n' z s s' hk=>hG env k n' z s s' (zt _ hk)) g1.l0 g1.c0 g1.c1 (by omega) (by omega) q4 q1;cases hx:jl E (fun env nm s=>renI ts es env nm body s) bin (i+1) r.1.1 r.1.2 ks t with
   |error d =>
    rw [hx] at ih;obtain ⟨t',a1,a2,a3⟩:=ih;rw [a1];exact ⟨t',rfl,a2,a3⟩
   |ok x =>
    obtain ⟨⟨nm',ks',m'⟩,s''⟩:=x;rw [hx] at ih;rw [ih]
theorem ZP (ts:TS) (es:List (ByteArray×Bool)) (hfr:Free ts es) (hb:∀ p,p∈ts.preds→WfN p.body∧yv ts p.body):∀(f:Nat) (env:IEnv) (sc:List Sb) (n:Nd) (body:Bool) (s:ISt),
  4000<s.cost+(f:Int)→StOk (qC ts es) s→zI env→WfN n→yv ts n→ScOf ts body sc env→OutR (expI ts es f env n body s) (expR ts es f sc n body s).1 (expR ts es f sc n body s).2.1 (expR ts es f sc n body s).2.2
 | 0,env,sc,n,body,s,hf,hs,_,_,_,_=>by have:=hs.c1;omega
 |f+1,env,sc,n,body,s,hf,hs,he,hw,hcl,hsc=>by
  have hs0:=hs.c0;have hs1:=hs.c1;have p1:(payS 1 s).cost=s.cost+1:=rfl;simp only [expI,expR];by_cases hc:s.cost+1≤4000
  case neg =>
   rw [if_neg hc,if_neg hc];exact ⟨by rw [p1];omega,by rw [p1];omega,by simp,by simp⟩
  rw [if_pos hc,if_pos hc];have hp1:=(wB hs (n:=1) (by omega) hc).ok hs;by_cases h1:n.op=1
  ·rw [if_pos h1,if_pos h1]
   unfold u6 uc;rw [hsc.look];cases hg:getK n.name env with
   |none=>exact ⟨rfl,rfl,rfl⟩
   |some v =>
    have hv:=he.sz _ ((Zm he.nd).1 hg);have hv:0≤v.size∧v.size≤4000:=hv;simp only;cases ha:v.arg with
    |none=>exact ⟨rfl,rfl,rfl⟩
    |some a =>
     simp only;have e2:(payS v.size (payS 1 s)).cost=(payS 1 s).cost+v.size:=rfl;by_cases hle:(payS 1 s).cost+v.size≤4000
     ·rw [if_pos hle];exact ⟨rfl,rfl,rfl⟩
     ·rw [if_neg hle]
      exact ⟨by rw [e2];omega,by rw [e2];omega,hv.1,hv.2⟩
  rw [if_neg h1,if_neg h1];by_cases h47:n.op=47
  ·rw [if_pos h47,if_pos h47]
   obtain ⟨p,hfp,hlen⟩:=hcl n (Vo n) h47;have hpm:=List.mem_of_find?_eq_some hfp;rw [hfp];simp only;have ha:=nh (F:=qC ts es) (f:=f) (E:=fun k s=>expI ts es f env k body s) (E':=fun k s=>expR ts es f sc k body s) p.params n.kids [] [] (payS 1 s)
    (fun k hk s hs hf=>ZP ts es hfr hb f env sc k body s hf hs he (hw.kid hk) (hcl.kid hk) hsc)
    (fun k n' z s s' hk hs e=>vF ts hfr f hs he e) hp1 (by rw [p1];omega) .nil (fun nm=>rfl) (fun e hm=>absurd hm zb)
   cases hx:jv (fun k s=>expI ts es f env k body s) p.params n.kids [] (payS 1 s) with
   |error d =>
    rw [hx] at ha;obtain ⟨t,a1,a2,a3⟩:=ha;rw [a1];exact ⟨a2,a3,by simp,by simp⟩
   |ok x =>
    obtain ⟨own,s'⟩:=x;rw [hx] at ha;obtain ⟨L,a1,a2,a3,a4,a5,a6⟩:=ha;rw [a1];obtain ⟨b1,b2⟩:=hb p hpm;exact ZP ts es hfr hb f own L p.body true s' (by rw [p1] at a6;omega) a5 a2 b1 b2 ⟨a3,fun h=>absurd h (by simp),a4⟩
  ·rw [if_neg h47,if_neg h47]
   have hk:=nq hfr (f:=f) (body:=body) (E:=fun env k s=>expI ts es f env k body s) (E':=fun sc k s=>expR ts es f sc k body s) (bin:=binB n.op) n.kids 0 env sc n.name (payS 1 s)
    (fun k hk env sc s hs hf he hsc=>ZP ts es hfr hb f env sc k body s hf hs he (hw.kid hk) (hcl.kid hk) hsc)
    (fun env k n' z s s' hk hs he e=>vF ts hfr f hs he e) hp1.l0 hp1.c0 hp1.c1 (by
     rw [Zz];have:=hs.p;unfold dueN;split<;>omega) (by rw [p1];omega) he hsc
   cases hx:jl (fun env k s=>expI ts es f env k body s) (fun env nm s=>renI ts es env nm body s) (binB n.op) 0 env n.name n.kids (payS 1 s) with
   |error d =>
    rw [hx] at hk;obtain ⟨t,a1,a2,a3⟩:=hk;rw [a1];exact ⟨a2,a3,by simp,by simp⟩
   |ok x =>
    obtain ⟨⟨nm,ks,m⟩,s'⟩:=x;rw [hx] at hk;rw [hk];exact ⟨rfl,rfl,rfl⟩
end Go.Proofs.YtcfopdccdeeleaaGreatDoor.QY


namespace Go.Proofs.YtcfopdccdeeleaaGreatDoor.QZ
open Go Go.Ev Go.Proofs Go.Proofs.YtcfopdccdeeleaaGreatDoor YM YS YF Y9 Y10 Y1 Y2 Y3 Y4 YX YZ YA YB YC YE YG YH P1 P2 PA QD QE QI QK QS QT QV QW QX QY
abbrev eXO (ts:TS) (l:List ByteArray) (q:XO):AV := .tup [eWk ts l q.1,eNd q.2.1,aI q.2.2]
theorem VI (x:Sb):∀ c,c∈cSb x→HF c:=fun c hc=>by
 rcases zh.1 hc with hc | hc
 ·rcases zh.1 hc with hc | hc
  ·simp only [qK,zb,or_false] at hc
   rcases hc with rfl | rfl | rfl<;>exact HF.sc _
  ·exact qiI _ c hc
 ·rw [zj] at hc;subst hc;exact HF.sc _
theorem qiJ (x:Sb):(cSb x).length=9:=by simp [qiH]
theorem ZR (l:List Sb):zC 9 (l.map cSb):=fun r hr=>by
 obtain ⟨x,_,rfl⟩:=qE.1 hr;refine ⟨qiJ x,?_⟩;obtain ⟨nm,⟨a,z,w⟩⟩:=x;cases a<;>simp [yk,go_sem]
theorem nr (l:List Sb):HF (lSb l):=HF.lst fun r hr c hc=>by
 obtain ⟨x,_,rfl⟩:=qE.1 hr;exact VI x c hc
theorem wkX (ts:TS) (l:List ByteArray) (s:ISt) (sc:List Sb) (n:Nd) (b:Bool):WKs [eWk ts l s,lSb sc,eNd n,aB b] [eWk ts l s,lSb sc,eNd n,aB b] := .cons (.hf (uD ts l s)) (.cons (.hf (nr sc)) (.cons (.hf (qO n)) (.cons (.hf (HF.sc _)) .nil)))
theorem Xl (ts:TS) (l:List ByteArray) (q:XO):HF (eXO ts l q):=HF.tup fun x hx=>by
 simp only [qK,zb,or_false] at hx;rcases hx with rfl | rfl | rfl
 ·exact uD ts l _
 ·exact qO _
 ·exact HF.sc _
structure Pre (ts:TS) (es:List (ByteArray×Bool)) (f:Nat) (env:IEnv) (sc:List Sb) (n:Nd) (body:Bool) (s:ISt):Prop where
 fu:4000<s.cost+(f:Int)
 st:StOk (qC ts es) s
 en:zI env
 wf:WfN n
 cl:yv ts n
 so:ScOf ts body sc env
 le:(sc.length:Int)≤s.cost+8
theorem rd0 {mu:Mu}:Rd mu (.agg [aI 0,aS ⟨#[]⟩,aI 0,.lst true [],aI 0]) (eNd nd0) := .agg _ _ rfl fun k x y hx hy=>by
 match k,hx,hy with
 | 0,hx,hy=>cases hx;cases hy;exact .hf _ (HF.sc _)
 | 1,hx,hy=>cases hx;cases hy;exact .hf _ (HF.sc _)
 | 2,hx,hy=>cases hx;cases hy;exact .hf _ (HF.sc _)
 | 3,hx,hy=>cases hx;cases hy;exact .wk _ true _ (.hf _ (HF.lst fun r hr=>absurd hr zb))
 | 4,hx,hy=>cases hx;cases hy;exact .hf _ (HF.sc _)
 |k+5,hx,hy=>cases hx
theorem rdZ {mu:Mu} (ts:TS) (l:List ByteArray) (s:ISt):Rd mu (.tup [eWk ts l s,.agg [aI 0,aS ⟨#[]⟩,aI 0,.lst true [],aI 0],aI 0]) (eXO ts l (s,nd0,0)) := .tup _ _ rfl fun k x y hx hy=>by
 match k,hx,hy with
 | 0,hx,hy=>cases hx;cases hy;exact .hf _ (uD ts l s)
 | 1,hx,hy=>cases hx;cases hy;exact rd0
 | 2,hx,hy=>cases hx;cases hy;exact .hf _ (HF.sc _)
 |k+3,hx,hy=>cases hx
theorem nt {mu:Mu} {lo:Nat} {s:AV} {xs:List Sb} {y:Sb} {K:AV→Mu→Prop} (ho:OwnF lo mu 9 s (xs.map cSb)) (hl:xs.length≤100000) (kk:∀ av mu',OwnF lo mu' 9 av ((xs++[y]).map cSb)→(∀ i,i<lo→mu'[i]?=mu[i]?)→K av mu') :
  zo Tryz.prog mu #[185,185] s (.lst true [cSb y]) K:=by
 refine zo.ownF (lo:=lo) (e:=190) (sz:=9) (bt:=112) (zv := .agg [aS ⟨#[]⟩,aS ⟨#[]⟩,aB false,aI 0,aS ⟨#[]⟩,aI 0,.lst true [],aI 0,aI 0]) (xs:=xs.map cSb) (ys:=[cSb y]) (by simp [go_sem]) (by simp [go_sem]) (by simp [go_sem]) rfl rfl (by omega) (by omega) ho (by simp [zf]) (ZR xs) (ZR [y]) (by simp;omega) ?_;intro av mu' h h2;exact kk av mu' (by rw [List.map_append];exact h) h2
abbrev ExpW (ts:TS) (l:List ByteArray) (es:List (ByteArray×Bool)) (f:Nat) (sc:List Sb) (n:Nd) (body:Bool) (s:ISt):Prop:=
 qt Tryz.prog 73 [eWk ts l s,lSb sc,eNd n,aB body] (eXO ts l (expR ts es f sc n body s))
theorem expN (ts:TS) (l:List ByteArray) (es:List (ByteArray×Bool)) (f:Nat) (env:IEnv) (sc:List Sb) (n:Nd) (body:Bool) (s:ISt) (p:Pre ts es (f+1) env sc n body s) (hc:s.cost+1≤4000) (h1:n.op=1):ExpW ts l es (f+1) sc n body s:=by
 have hs0:=p.st.c0;have hl:=p.le;have cl:=leafU ts l sc (by omega) n (payS 1 s) ⟨by show 0≤s.cost+1;omega,by show s.cost+1≤_;omega⟩ (fun e he=>by have:=p.so.sz e he;omega);unfold ExpW;simp only [expR];rw [if_pos hc,if_pos h1];have w1:IntKind.i64.wrap (s.cost+1)=s.cost+1:=qy (by omega) (by omega);have hle:¬ 4000<s.cost+1:=by omega
 generalize u6 sc n (payS 1 s)=Q at *
 refine qSQ Tryz.call73 Tryz.func73 rfl { mt:=[4] } ?_;simp [go_sem,w1,hle,h1,qr];refine qc.pure cl (.cons (.hf (uD ts l (payS 1 s))) (.cons (.hf (nr sc)) (.cons (.hf (qO n)) .nil))) ?_;simp [go_sem,qr];exact .hf _ (Xl ts l (Q.2,Q.1.1,Q.1.2))
theorem expZ (ts:TS) (l:List ByteArray) (es:List (ByteArray×Bool)) (f:Nat) (env:IEnv) (sc:List Sb) (n:Nd) (body:Bool) (s:ISt) (p:Pre ts es (f+1) env sc n body s) (hc:¬s.cost+1≤4000):ExpW ts l es (f+1) sc n body s:=by
 have hs0:=p.st.c0;have hs1:=p.st.c1;unfold ExpW;simp only [expR];rw [if_neg hc];have w1:IntKind.i64.wrap (s.cost+1)=s.cost+1:=qy (by omega) (by omega);have hle:4000<s.cost+1:=by omega
 refine qSQ Tryz.call73 Tryz.func73 rfl { mt:=[4] } ?_;simp [go_sem,w1,hle,qr];exact rdZ ts l (payS 1 s)
def repR (ts : TS) (es : List (ByteArray × Bool)) (f : Nat) (sc : List Sb) (n : Nd) (body : Bool) (s : ISt) (p : Pd) : XO := match vH (fun k s => expR ts es f sc k body s) p.params n.kids [] s with
          | .error s'=>(s',nd0,0)
          | .ok (own,s')=>expR ts es f own p.body true s'
theorem expC (ts:TS) (l:List ByteArray) (es:List (ByteArray×Bool)) (f:Nat) (env:IEnv) (sc:List Sb) (n:Nd) (body:Bool) (s:ISt) (p:Pre ts es (f+1) env sc n body s) (hc:s.cost+1≤4000) (h47:n.op=47) (pd:Pd) (hp:(ts.preds.find? fun p=>decide (p.name=n.name))=some pd)
  (hr:qt Tryz.prog 120 [eWk ts l (payS 1 s),lSb sc,eNd n,aB body] (eXO ts l (repR ts es f sc n body (payS 1 s) pd))):ExpW ts l es (f+1) sc n body s:=by
 have hs0:=p.st.c0;unfold ExpW;simp only [expR];rw [if_pos hc,if_neg (by omega),if_pos h47,hp];simp only;have w1:IntKind.i64.wrap (s.cost+1)=s.cost+1:=qy (by omega) (by omega);have hle:¬ 4000<s.cost+1:=by omega
 show qt Tryz.prog 73 [eWk ts l s,lSb sc,eNd n,aB body] (eXO ts l (repR ts es f sc n body (payS 1 s) pd));generalize repR ts es f sc n body (payS 1 s) pd=Q at *
 refine qSQ Tryz.call73 Tryz.func73 rfl { mt:=[4] } ?_;simp [go_sem,w1,hle,h47,qr];refine qc.pure hr (wkX ts l (payS 1 s) sc n body) ?_;simp [go_sem,qr];exact .hf _ (Xl ts l Q)
theorem replW (ts:TS) (h:okTS ts) (l:List ByteArray) (es:List (ByteArray×Bool)) (hfr:Free ts es) (hb:∀ p,p∈ts.preds→WfN p.body∧yv ts p.body) (f:Nat) (ih:∀ env sc n body s,Pre ts es f env sc n body s→ExpW ts l es f sc n body s) (env:IEnv) (sc:List Sb) (n:Nd) (body:Bool) (s:ISt) (p:Pre ts es f env sc n body s) (h47:n.op=47)
  (pd:Pd) (hp:(ts.preds.find? fun p=>decide (p.name=n.name))=some pd) (hlen:pd.params.length=n.kids.length):qt Tryz.prog 120 [eWk ts l s,lSb sc,eNd n,aB body] (eXO ts l (repR ts es f sc n body s pd)):=by
 have hpm:=List.mem_of_find?_eq_some hp;have hpl:=(h.pl pd hpm).1;have hnp:=h.np;obtain ⟨i,hi,hip,hcal⟩:∃ i,∃ hi:i<ts.preds.length,ts.preds[i]=pd∧zJ (ckR ts ts.preds.length) n.name=some i:=by
  cases hc:zJ (ckR ts ts.preds.length) n.name with
  |none =>
   unfold zJ at hc;rw [List.findIdx?_eq_none_iff] at hc;have:=hc pd (by show pd∈ts.preds.take ts.preds.length;rw [jC];exact hpm);have h2:=List.find?_some hp;rw [h2] at this;cases this
  |some i =>
   obtain ⟨h1,h2⟩:=Qd (ZM h (qB _)) hc;have h2:i<ts.preds.length:=h2;have h3:=PF.gY hc h2;have h3:(ts.preds.find? fun p=>decide (p.name=n.name))=some ts.preds[i]:=h3;rw [hp] at h3;exact ⟨i,h2,(Option.some.inj h3).symm,rfl⟩
 have cp:=Je (ckR ts ts.preds.length) (ZM h (qB _)) n.name;rw [hcal] at cp;have hrow:=jt;have hge:¬(i:Int)<0:=by omega
 obtain ⟨E',hE⟩:∃ E':Nd→ISt→XO,E'=fun k s=>expR ts es f sc k body s:=⟨_,rfl⟩
 obtain ⟨RES,hRES⟩:∃ RES,RES=repR ts es f sc n body s pd:=⟨_,rfl⟩;have hX1:∀ k,k∈n.kids→∀ sk,StOk (qC ts es) sk→s.cost≤sk.cost→qt Tryz.prog 73 [eWk ts l sk,lSb sc,eNd k,aB body] (eXO ts l (E' k sk)):=fun k hk sk hst hge=>by
  rw [hE];exact ih env sc k body sk ⟨by have:=p.fu;omega,hst,p.en,p.wf.kid hk,p.cl.kid hk,p.so,by have:=p.le;omega⟩
 have hX2:∀ k,k∈n.kids→∀ sk,StOk (qC ts es) sk→s.cost≤sk.cost→4000<(E' k sk).1.cost∨(¬ 4000<(E' k sk).1.cost∧Gos (qC ts es) sk (E' k sk).1 (E' k sk).2.2):=fun k hk sk hst hge=>by
  have ho:=ZP ts es hfr hb f env sc k body sk (by have:=p.fu;omega) hst p.en (p.wf.kid hk) (p.cl.kid hk) p.so;have hE2:E' k sk=expR ts es f sc k body sk:=by rw [hE]
  rw [hE2];cases hx:expI ts es f env k body sk with
  |error d=>rw [hx] at ho;exact .inl ho.1
  |ok r =>
   obtain ⟨⟨m,y⟩,t⟩:=r;rw [hx] at ho;obtain ⟨e1,e2,e3⟩:=ho;have g:=vF ts hfr f hst p.en hx;rw [e2,e3];exact .inr ⟨by have:=g.c1;omega,g⟩
 have hR1:∀ t,vH E' pd.params n.kids [] s = .error t→RES=(t,nd0,0):=fun t ht=>by
  rw [hRES];unfold repR;rw [←hE,ht]
 have hR2:∀ own t O,vH E' pd.params n.kids [] s = .ok (own,t)→StOk (qC ts es) t→s.cost≤t.cost→zI O→(∀ nm,ul nm own=getK nm O)→(∀ e,e∈own→0≤e.2.size∧e.2.size≤4000)→own.length≤8→qt Tryz.prog 73 [eWk ts l t,lSb own,eNd pd.body,aB true] (eXO ts l RES):=fun own t O ht hst hge hO hlk hsz h8=>by
  have e:RES=expR ts es f own pd.body true t:=by rw [hRES];unfold repR;rw [←hE,ht]
  rw [e];have hc0:=hst.c0;exact ih O own pd.body true t ⟨by have:=p.fu;omega,hst,hO,(hb pd hpm).1,(hb pd hpm).2,⟨hlk,fun h=>absurd h (by simp),hsz⟩,by omega⟩
 rw [←hRES];have hst0:=p.st;clear hRES hE ih;refine qSQ Tryz.call120 Tryz.func120 rfl { mt:=[4] } ?_;simp [go_sem,qr];refine qc.pure cp (.cons (.hf (zq ts)) (.cons (.hf (HF.sc _)) (.cons (.hf (HF.sc _)) .nil))) ?_;simp [go_sem,qr,idxO,hge];refine qD.upK n.kids.length (fun k st=>∃(sk:ISt) (L:List Sb) (O:IEnv),st.tm 1=lSb sc∧st.tm 3=aB body∧st.tm 4 = .ptr 0 0∧st.tm 6 = .ip (cNd n)∧st.tm 8 = .ptr 1 0∧st.tm 9 = .ptr 2 0∧st.tm 12=aI i∧st.tm 14=aI k∧st.mu[0]?=some (.arr (cWk ts l sk))∧st.mu[1]?=some (.arr zWk)∧st.mu[2]?=some (.arr [aI 0,aS ⟨#[]⟩,aI 0,.lst true [],aI 0])∧OwnF 3 st.mu 9 (st.tm 13) (L.map cSb)∧vH E' pd.params n.kids [] s=vH E' (pd.params.drop k) (n.kids.drop k) L sk∧StOk (qC ts es) sk∧s.cost≤sk.cost∧zI O∧(∀ nm,ul nm L=getK nm O)∧(∀ e,e∈L→0≤e.2.size∧e.2.size≤4000)∧L.length=k) ?_ ?_
 ·exact ⟨s,[],[],by simp [go_sem],by simp [go_sem],by simp [go_sem],by simp [go_sem],by simp [go_sem],by simp [go_sem],by simp [go_sem],by simp [go_sem],by simp [go_sem],by simp [go_sem],by simp [go_sem],by simp [go_sem];exact OwnF.nil (by simp),rfl,hst0,Qq _,.nil,fun nm=>rfl,fun e he=>absurd he zb,rfl⟩
 rintro k st hk ⟨sk,L,O,e1,e3,e4,e6,e8,e9,e12,e14,m0,m1,m2,ho,hI,hst,hgs,hO,hlk,hsz,hLk⟩;generalize h13:st.tm 13=av at *
 obtain ⟨rr,hrr⟩:=wE m0 m1 m2;have hrl:st.mu.length=rr.length+3:=by rw [hrr];rfl
 have hkl8:n.kids.length≤8:=by omega
 by_cases hlt:k<n.kids.length
 ·have hlp:k<pd.params.length:=by omega
  have w1:IntKind.i64.wrap ((k:Int)+1)=(k:Int)+1:=qy (by omega) (by omega);rw [zA hlt,zA hlp] at hI;simp only [vH] at hI;have x1:=hX1 n.kids[k] (qJ hlt) sk hst hgs;have x2:=hX2 n.kids[k] (qJ hlt) sk hst hgs;generalize E' n.kids[k] sk=q at *
  clear m0 m1 m2;simp [go_sem,e1,e3,e4,e6,e8,e9,e12,e14,h13,hrr,hlt,hlp,hi,hip,hrow,qr];refine qx.seg [0,1,2,3,4,5,6,7,8,9,10,11,12,17,13,14,15,16] [(0,0,[]),(1,0,[]),(2,0,[]),(3,0,[]),(4,0,[]),(5,0,[]),(6,0,[]),(7,0,[]),(8,1,[]),(9,0,[]),(10,0,[]),(11,0,[]),(12,0,[]),(17,0,[]),(13,2,[0,3,6]),(14,2,[0,3,6]),(15,1,[]),(16,1,[])] (by kernel_rfl) (by kernel_rfl) (by simp [go_sem]) ?_;simp [go_sem,e1,e3,e4,e6,e8,e9,e12,e14,h13,hrr,hlt,hlp,hi,hip,hrow,qr];refine qc.pure x1 (wkX ts l sk sc n.kids[k] body) ?_;simp [go_sem,e1,e3,e4,e6,e8,e9,e12,e14,h13,hrr,hlt,hlp,hi,hip,hrow,qr];by_cases hbig:4000<q.1.cost
  ·have hI2:RES=(q.1,nd0,0):=hR1 _ (by rw [hI,if_pos hbig])
   simp [go_sem,e1,e3,e4,e6,e8,e9,e12,e14,h13,hrr,hlt,hlp,hi,hip,hrow,qr,hbig];rw [hI2];exact rdZ ts l q.1
  ·rcases x2 with x2 | ⟨_,g⟩
   ·exact absurd x2 hbig
   rw [if_neg hbig] at hI;simp [go_sem,e1,e3,e4,e6,e8,e9,e12,e14,h13,hrr,hlt,hlp,hi,hip,hrow,qr,hbig];refine qx.intro (by kernel_rfl) ?_;simp [go_sem,e1,e3,e4,e6,e8,e9,e12,e14,h13,hrr,hlt,hlp,hi,hip,hrow,qr,hbig];obtain ⟨g1,g2,g3⟩:=VH g hst;have gz:=g.z0;have hy:(AV.sc (.string pd.params[k].1) :: AV.sc (.string ⟨#[]⟩) :: AV.sc (.bool true) :: (cNd q.2.1++[AV.sc (.int .i64 q.2.2)]))=cSb (pd.params[k].1,⟨some q.2.1,q.2.2,⟨#[]⟩⟩):=by simp [go_sem]
   rw [hy];generalize hen:(pd.params[k].1,(⟨some q.2.1,q.2.2,⟨#[]⟩⟩:IV))=en at *
   refine nt (lo:=3) (xs:=L) (y:=en) ?_ (by omega) ?_
   ·have h1:OwnF 3 (st.mu++[Cell.arr (cWk ts l q.1),Cell.arr (cNd q.2.1)]) 9 av (L.map cSb):=YD.wC ho (by simp;omega) fun i _ hi=>qz hi
    rw [hrr] at h1;have h2:=OwnF.set (i:=0) (c:=Cell.arr (cWk ts l q.1)) h1 (by omega);simpa using h2
   intro av' mu' ho2 hk2;have n0:=hk2 0 (by omega);have n1:=hk2 1 (by omega);have n2:=hk2 2 (by omega);simp at n0 n1 n2;obtain ⟨r2,hr2⟩:=wE n0 n1 n2;simp [go_sem,e1,e3,e4,e6,e8,e9,e12,e14,h13,hr2,hlt,hlp,hi,hip,hrow,qr,hbig,w1];refine Keep.mk' ⟨q.1,L++[en],setK en.1 en.2 O,by simp [go_sem,e1],by simp [go_sem,e3],by simp [go_sem,e4],by simp [go_sem,e6],by simp [go_sem,e8],by simp [go_sem,e9],by simp [go_sem,e12],by simp [go_sem],by simp [go_sem],by simp [go_sem],by simp [go_sem],?_,?_,g1,?_,?_,?_,?_,?_⟩
   ·have h2:=OwnF.set (i:=0) (c:=Cell.arr (cWk ts l q.1)) ho2 (by omega)
    simp [go_sem];rw [hr2] at ho2;simpa using ho2
   ·rw [hI,←hen]
   ·omega
   ·rw [←hen];exact hO.set ⟨gz,g3⟩
   ·intro nm
    rw [VG,Zl,hlk];by_cases e:en.1=nm
    ·rw [if_pos e,if_pos e.symm]
    ·rw [if_neg e,if_neg fun x=>e x.symm]
   ·intro e he
    rcases zh.1 he with he | he
    ·exact hsz e he
    ·rw [zj] at he;subst he;rw [←hen];exact ⟨gz,g3⟩
   ·simp [hLk]
 ·simp [go_sem,e1,e3,e4,e6,e8,e9,e12,e14,h13,hrr,hlt,hi,hip,hrow,qr]
  refine qx.seg [0,1,2,3,4,5,6,7,8,9,10,11,12,15,13,14] [(0,0,[]),(1,0,[]),(2,0,[]),(3,0,[]),(4,0,[]),(5,0,[]),(6,0,[]),(7,0,[]),(8,0,[]),(9,1,[]),(10,0,[]),(11,0,[]),(12,0,[]),(15,0,[]),(13,1,[]),(14,1,[])] (by kernel_rfl) (by kernel_rfl) (by simp [go_sem]) ?_;simp [go_sem,e1,e3,e4,e6,e8,e9,e12,e14,h13,hrr,hlt,hi,hip,hrow,qr];refine qc.eff0 (qW.freeze (args1:=[eWk ts l sk,lSb L,eNd pd.body,aB true]) (fun j=>decide (3≤j)) ⟨.inl rfl,.inr ?_,.inl rfl,.inl rfl,trivial⟩ (qt.toSound _ (hR2 L sk O ?_ hst hgs hO hlk hsz (by omega)) (wkX ts l sk L pd.body true))) ?_ ?_
  ·have h1:=Y13.Vc ho (ZR L).ok fun r hr c hc=>by
    obtain ⟨x,_,rfl⟩:=qE.1 hr;exact VI x c hc
   rw [hrr] at h1;exact h1
  ·rw [hI,VL (by omega),VL (by omega)];rfl
  ·rintro r m ⟨hv,rfl⟩
   cases hv;simp [go_sem,cutM,qr,e1,e3,e4,e6,e8,e9];exact .hf _ (Xl ts l RES)
  ·rintro r m ⟨hv,rfl⟩
   cases hv
end Go.Proofs.YtcfopdccdeeleaaGreatDoor.QZ


set_option maxHeartbeats 1000000
namespace Go.Ev
theorem awp.cut {P:Program} {pl:Pol} {A1 A2 rest C:Code} {i:Nat} {Q:zu→St→Prop} {st:St} (J:St→Prop)
  (h:awp P pl A1 (seqQ (awp P pl A2 (seqQ (Keep J .mk) (vp i (seqQ (awp P pl C Q) Q)))) Q) st)
  (hk:∀ st,J st→awp P pl rest (vp i (seqQ (awp P pl C Q) Q)) st):awp P pl (.seq A1 (.seq (.block i (.seq A2 rest)) C)) Q st:=by
 refine awp.mono A1 (Q:=seqQ (awp P pl A2 (seqQ (Keep J .mk) (vp i (seqQ (awp P pl C Q) Q)))) Q) h (fun e st h=>?_);cases e with
 |normal =>
  refine awp.mono A2 (Q:=seqQ (Keep J .mk) (vp i (seqQ (awp P pl C Q) Q))) h (fun e st h=>?_);cases e with
  |normal=>exact hk st h
  |exit i=>exact h
  |ret=>exact h
  |pan v=>exact h
 |exit i=>exact h
 |ret=>exact h
 |pan v=>exact h
theorem qiK {K:St→Prop} (J:St→Prop) {st:St} (h:FzQ (fun _=>J) (.exit 0) st) (k:∀ st2,J st2→K st2):FzQ (fun _ st=>K st) (.exit 0) st:=by
 obtain ⟨st',f,q,j⟩:=h;exact ⟨st',f,q,k _ j⟩
end Go.Ev
namespace Go.Proofs.YtcfopdccdeeleaaGreatDoor.RA
open Go Go.Ev Go.Proofs Go.Proofs.YtcfopdccdeeleaaGreatDoor YM YS YF Y9 Y10 Y1 Y2 Y3 Y4 YX YZ YA YB YC YE YG YH P1 P2 PA QD QE QI QK QS QT QV QW QX QY QZ
theorem four {α:Type} {l:List α} {a b c d:α} (h0:l[0]?=some a) (h1:l[1]?=some b) (h2:l[2]?=some c) (h3:l[3]?=some d):∃ r,l=a :: b :: c :: d :: r:=by
 match l,h0,h1,h2,h3 with
 |_ :: _ :: _ :: _ :: r,h0,h1,h2,h3 =>
  simp at h0 h1 h2 h3;exact ⟨r,by rw [h0,h1,h2,h3]⟩
def resK (n:Nd) (acc:List Nd) (z:Int):Except ISt ((ByteArray×List Nd×Int)×ISt)→XO
 | .error s=>(s,nd0,0)
 | .ok ((nm,ks,m),s)=>(s,.mk n.op nm n.n (acc++ks) n.pos,z+m)
structure AtK (ts:TS) (l:List ByteArray) (es:List (ByteArray×Bool)) (n:Nd) (body:Bool) (s:ISt) (k:Nat) (sc2:List Sb) (env2:IEnv) (nm2:ByteArray) (s3:ISt) (acc:List Nd) (av:AV) (z:Int) (st:St):Prop where
 e3:st.tm 3=aB body
 e4:st.tm 4 = .ptr 0 0
 e6:st.tm 6 = .ip (cNd n)
 e8:st.tm 8 = .ptr 1 0
 e9:st.tm 9 = .ptr 2 0
 e11:st.tm 11 = .ptr 3 0
 e12:st.tm 12=aI z
 e13:st.tm 13=aI k
 m0:st.mu[0]?=some (.arr (cWk ts l s3))
 m1:st.mu[1]?=some (.arr zWk)
 m2:st.mu[2]?=some (.arr [aI 0,aS ⟨#[]⟩,aI 0,.lst true [],aI 0])
 m3:st.mu[3]?=some (.arr [aI n.op,aS nm2,aI n.n,av,aI n.pos])
 ho:OwnF 4 st.mu 5 av (acc.map cNd)
 so:ScOf ts body sc2 env2
 en:zI env2
 al:acc.length=k
 l0:0≤s3.last
 c0:s.cost+1≤s3.cost
 c1:s3.cost≤4000
 z1:0≤z
 z2:z≤1+4000*(k:Int)
theorem AtK.same {ts:TS} {l:List ByteArray} {es:List (ByteArray×Bool)} {n:Nd} {body:Bool} {s:ISt} {k:Nat} {sc2:List Sb} {env2:IEnv} {nm2:ByteArray} {s3:ISt} {acc:List Nd} {av:AV} {z:Int} {st st':St} (A:AtK ts l es n body s k sc2 env2 nm2 s3 acc av z st)
  (e3:st'.tm 3=aB body) (e4:st'.tm 4 = .ptr 0 0) (e6:st'.tm 6 = .ip (cNd n)) (e8:st'.tm 8 = .ptr 1 0) (e9:st'.tm 9 = .ptr 2 0) (e11:st'.tm 11 = .ptr 3 0) (e12:st'.tm 12=aI z) (e13:st'.tm 13=aI k) (em:st'.mu=st.mu):AtK ts l es n body s k sc2 env2 nm2 s3 acc av z st':=
 ⟨e3,e4,e6,e8,e9,e11,e12,e13,by rw [em];exact A.m0,by rw [em];exact A.m1,by rw [em];exact A.m2,by rw [em];exact A.m3,by rw [em];exact A.ho,A.so,A.en,A.al,A.l0,A.c0,A.c1,A.z1,A.z2⟩
theorem nu {lo0 lo sz:Nat} {mu mu':Mu} {av:AV} {xs:List (List AV)} (h:OwnF lo0 mu sz av xs) (hav:∀ b s o q,av = .sl b s o q→b<lo) (hl:lo0≤mu'.length) (hk:∀ j,lo0≤j→j<lo→mu'[j]?=mu[j]?):OwnF lo0 mu' sz av xs:=by
 obtain ⟨ho,hb,_⟩:=h;refine ⟨?_,hb,hl⟩;rcases ho with rfl | ⟨b,rfl,hc⟩
 ·exact .inl rfl
 ·exact .inr ⟨b,rfl,by rw [hk b (hb b _ _ _ rfl) (hav b _ _ _ rfl)];exact hc⟩
theorem AtK.keep {ts:TS} {l:List ByteArray} {es:List (ByteArray×Bool)} {n:Nd} {body:Bool} {s:ISt} {k:Nat} {sc2:List Sb} {env2:IEnv} {nm2:ByteArray} {s3:ISt} {acc:List Nd} {av:AV} {z:Int} {st st':St} (A:AtK ts l es n body s k sc2 env2 nm2 s3 acc av z st)
  (e3:st'.tm 3=aB body) (e4:st'.tm 4 = .ptr 0 0) (e6:st'.tm 6 = .ip (cNd n)) (e8:st'.tm 8 = .ptr 1 0) (e9:st'.tm 9 = .ptr 2 0) (e11:st'.tm 11 = .ptr 3 0) (e12:st'.tm 12=aI z) (e13:st'.tm 13=aI k) (lo:Nat) (h4:4≤lo) (hav:∀ b s o q,av = .sl b s o q→b<lo) (hl:4≤st'.mu.length) (hk:∀ j,j<lo→st'.mu[j]?=st.mu[j]?):AtK ts l es n body s k sc2 env2 nm2 s3 acc av z st':=
 ⟨e3,e4,e6,e8,e9,e11,e12,e13,by rw [hk 0 (by omega)];exact A.m0,by rw [hk 1 (by omega)];exact A.m1,by rw [hk 2 (by omega)];exact A.m2,by rw [hk 3 (by omega)];exact A.m3,nu A.ho hav hl (fun j _=>hk j),A.so,A.en,A.al,A.l0,A.c0,A.c1,A.z1,A.z2⟩
theorem qiL {mu:Mu} {lo:Nat} {s x:AV} {xs ys:List Sb} {K:AV→Mu→Prop} (ho:OwnF lo mu 9 s (xs.map cSb)) (hx:zf mu x=some (ys.map cSb)) (hl:xs.length+ys.length≤100000) (kk:∀ av mu',OwnF lo mu' 9 av ((xs++ys).map cSb)→(∀ i,i<lo→mu'[i]?=mu[i]?)→K av mu') :
  zo Tryz.prog mu #[185,185] s x K:=by
 refine zo.ownF (lo:=lo) (e:=190) (sz:=9) (bt:=112) (zv := .agg [aS ⟨#[]⟩,aS ⟨#[]⟩,aB false,aI 0,aS ⟨#[]⟩,aI 0,.lst true [],aI 0,aI 0]) (xs:=xs.map cSb) (ys:=ys.map cSb) (by simp [go_sem]) (by simp [go_sem]) (by simp [go_sem]) rfl rfl (by omega) (by omega) ho hx (ZR xs) (ZR ys) (by simp;omega) ?_;intro av mu' h h2;exact kk av mu' (by rw [List.map_append];exact h) h2
theorem expK (ts:TS) (h:okTS ts) (l:List ByteArray) (es:List (ByteArray×Bool)) (t:Tn l es) (hl:l.length≤400000) (hF:qC ts es≤200000) (hfr:Free ts es) (hb:∀ p,p∈ts.preds→WfN p.body∧yv ts p.body) (f:Nat) (ih:∀ env sc n body s,Pre ts es f env sc n body s→ExpW ts l es f sc n body s)
  (env:IEnv) (sc:List Sb) (n:Nd) (body:Bool) (s:ISt) (p:Pre ts es (f+1) env sc n body s) (hc:s.cost+1≤4000) (h1:¬n.op=1) (h47:¬n.op=47):ExpW ts l es (f+1) sc n body s:=by
 have hs0:=p.st.c0;have hs1:=p.st.c1;have hkl:=p.wf.len;obtain ⟨E',hE⟩:∃ E':List Sb→Nd→ISt→XO,E'=fun sc k s=>expR ts es f sc k body s:=⟨_,rfl⟩
 obtain ⟨R',hR'⟩:∃ R':List Sb→ByteArray→ISt→(List Sb×ByteArray)×ISt,R'=fun sc nm s=>renR ts es sc nm body s:=⟨_,rfl⟩
 have hX1:∀ k,k∈n.kids→∀ env2 sc2 sk,StOk (qC ts es) sk→s.cost+1≤sk.cost→zI env2→ScOf ts body sc2 env2→(sc2.length:Int)≤sk.cost+8→qt Tryz.prog 73 [eWk ts l sk,lSb sc2,eNd k,aB body] (eXO ts l (E' sc2 k sk)):=fun k hk env2 sc2 sk hst hge he2 hso hle=>by
  rw [hE];exact ih env2 sc2 k body sk ⟨by have:=p.fu;omega,hst,he2,p.wf.kid hk,p.cl.kid hk,hso,hle⟩
 have hX2:∀ k,k∈n.kids→∀ env2 sc2 sk,StOk (qC ts es) sk→s.cost+1≤sk.cost→zI env2→ScOf ts body sc2 env2→4000<(E' sc2 k sk).1.cost∨(¬ 4000<(E' sc2 k sk).1.cost∧Gos (qC ts es) sk (E' sc2 k sk).1 (E' sc2 k sk).2.2):=fun k hk env2 sc2 sk hst hge he2 hso=>by
  have ho:=ZP ts es hfr hb f env2 sc2 k body sk (by have:=p.fu;omega) hst he2 (p.wf.kid hk) (p.cl.kid hk) hso;have hE2:E' sc2 k sk=expR ts es f sc2 k body sk:=by rw [hE]
  rw [hE2];cases hx:expI ts es f env2 k body sk with
  |error d=>rw [hx] at ho;exact .inl ho.1
  |ok r =>
   obtain ⟨⟨m,y⟩,t⟩:=r;rw [hx] at ho;obtain ⟨e1,e2,e3⟩:=ho;have g:=vF ts hfr f hst he2 hx;rw [e2,e3];exact .inr ⟨by have:=g.c1;omega,g⟩
 obtain ⟨RES,hRES⟩:∃ RES,RES=resK n [] 1 (vV E' R' (binB n.op) 0 sc n.name n.kids (payS 1 s)):=⟨_,rfl⟩;have hfin:expR ts es (f+1) sc n body s=RES:=by
  simp only [expR];rw [if_pos hc,if_neg h1,if_neg h47,hRES,hE,hR'];cases vV (fun sc k s=>expR ts es f sc k body s) (fun sc nm s=>renR ts es sc nm body s) (binB n.op) 0 sc n.name n.kids (payS 1 s) with
  |error e=>rfl
  |ok r=>rfl
 unfold ExpW;rw [hfin];clear hE hfin ih;have hst1:StOk (qC ts es) (payS 1 s):=(wB p.st (by omega) hc).ok p.st;have w1:IntKind.i64.wrap (s.cost+1)=s.cost+1:=qy (by omega) (by omega);have hle:¬ 4000<s.cost+1:=by omega
 have hcn:=yk n;refine qSQ Tryz.call73 Tryz.func73 rfl { mt:=[4] } ?_;simp [go_sem,w1,hle,h1,h47,hcn];refine qD.upK n.kids.length (fun k st=>∃(full:Bool) (sc2:List Sb) (env2:IEnv) (nm2:ByteArray) (s2:ISt) (acc:List Nd) (av:AV) (z:Int),st.tm 1 = .lst full (sc2.map cSb)∧AtK ts l es n body s k sc2 env2 nm2 s2 acc av z st∧(sc2.length:Int)+(if k≤1 then 1 else 0)≤s2.cost+8∧dueN (qC ts es) (binB n.op) k≤pot (qC ts es) s2∧(k≤1→nm2=n.name)∧resK n acc z (vV E' R' (binB n.op) k sc2 nm2 (n.kids.drop k) s2)=RES) ?_ ?_
 ·refine ⟨false,sc,env,n.name,payS 1 s,[],.lst true [],1,by simp [go_sem],⟨by simp [go_sem],by simp [go_sem],by simp [go_sem,yk n],by simp [go_sem],by simp [go_sem],by simp [go_sem],by simp [go_sem],by simp [go_sem],by simp [go_sem];exact ⟨rfl,rfl⟩,by simp [go_sem],by simp [go_sem],by simp [go_sem],by simp [go_sem];exact OwnF.nil (by simp),p.so,p.en,rfl,hst1.l0,by show _≤s.cost+1;omega,hst1.c1,by omega,by omega⟩,by show _≤s.cost+1+8;have:=p.le;simp;omega,?_,fun _=>rfl,hRES.symm⟩
  rw [Zz];have:=p.st.p;unfold dueN;split<;>omega
 ·rintro k st hk ⟨full,sc2,env2,nm2,s2,acc,av,z,et1,A,hlen,hdue,hnm,hI⟩
  obtain ⟨rr,hrr⟩:=four A.m0 A.m1 A.m2 A.m3;have e3:=A.e3;have e4:=A.e4;have e6:=A.e6;have e8:=A.e8;have e9:=A.e9;have e11:=A.e11;have e12:=A.e12;have e13:=A.e13;have hone:=A.ho.one;have hcel:=A.ho.cells;by_cases hlt:k<n.kids.length
  ·have w2:IntKind.i64.wrap ((k:Int)+1)=(k:Int)+1:=qy (by omega) (by omega)
   rw [zA hlt] at hI;simp only [vV] at hI;refine awp.cut (fun st=>∃(full:Bool) (lo:Nat) (sl:AV) (sc3:List Sb) (env3:IEnv) (nm3:ByteArray) (s3:ISt) (av:AV),(if binB n.op=true∧k=1 then R' sc2 nm2 s2 else ((sc2,nm2),s2))=((sc3,nm3),s3)∧st.tm 1=sl∧(sl = .lst full (sc3.map cSb)∨(OwnF lo st.mu 9 sl (sc3.map cSb)∧(∀ b s o q,av = .sl b s o q→b<lo)∧4≤lo))∧AtK ts l es n body s k sc3 env3 nm3 s3 acc av z st∧(sc3.length:Int)+(if k+1≤1 then 1 else 0)≤s3.cost+8∧dueN (qC ts es) (binB n.op) (k+1)≤pot (qC ts es) s3∧(k+1≤1→nm3=n.name)) ?_ ?_
   ·clear hX1 hX2
    by_cases hk1:k=1
    ·subst hk1
     have hnm1:=hnm (qB _);have hml4:st.mu.length=rr.length+4:=by rw [hrr];rfl
     have hav:∀ b s o q,av = .sl b s o q→b<rr.length+4:=fun b s o q e=>by
      rcases A.ho.1 with h | ⟨c,h,hc⟩
      ·rw [h] at e;cases e
      ·rw [h] at e;cases e;have:=(qv.1 hc).1;omega
     have hlt1:(1:Int)<n.kids.length:=by omega
     have hc0:=A.c0;have hl0:=A.l0;have hc1:=A.c1;by_cases hbb:binB n.op=true
     ·have hop:n.op=15∨n.op=45∨n.op=46:=by simpa [binB,or_assoc] using hbb
      have hns:=h.ns;have hnf:=h.nf;have hF2:qC ts es≤l.length+40:=by have:=t.len;unfold qC;omega
      have hok:okNm ts:=⟨h.sl,by omega,by omega,fun f hf=>by have:=h.fl f hf;omega⟩;have cn:=WO ts hok n.name;have hset:=WN ts n.name;have hkk:(named ts n.name).2=(ya ts n.name).length:=by rw [W4 h]
      rw [hkk] at cn;generalize (named ts n.name).1=C at *
      have hst2:StOk (qC ts es) s2:=⟨hl0,by omega,hc1,by have:=Qj (qC ts es) (binB n.op) 1;omega⟩;have hlast:=hst2.last;have cf:=qiG ts h l es t hl s2 ⟨hl0,by omega⟩ (hfr s2.last hl0);by_cases hcase:body=true∨ya ts n.name≠[]
      ·have hq:(if binB n.op=true∧1=1 then R' sc2 nm2 s2 else ((sc2,nm2),s2))=((sc2++[(n.name,⟨none,0,vN (zD ts es (qC ts es) s2.last)⟩)],vN (zD ts es (qC ts es) s2.last)),⟨zD ts es (qC ts es) s2.last,s2.cost⟩):=by
        rw [if_pos ⟨hbb,rfl⟩,hR',hnm1];show renR ts es sc2 n.name body s2=_;unfold renR;rw [if_pos hcase]
       have hbc:body=true∨(body=false∧0<(ya ts n.name).length):=by
        cases body with
        |true=>exact .inl rfl
        |false=>exact .inr ⟨rfl,Jn.2 (hcase.resolve_left (by simp))⟩
       clear hI;have hren:renR ts es sc2 n.name body s2=((sc2++[(n.name,⟨none,0,vN (zD ts es (qC ts es) s2.last)⟩)],vN (zD ts es (qC ts es) s2.last)),⟨zD ts es (qC ts es) s2.last,s2.cost⟩):=by
        unfold renR;rw [if_pos hcase]
       obtain ⟨a1,a2,a3⟩:=nj (es:=es) (nm:=n.name) (s:=s2) A.en A.so;have a4:=Vp (ts:=ts) (es:=es) (nm:=n.name) (body:=body) (s:=s2) A.en;obtain ⟨b1,b2,b3⟩:=Vq (body:=body) (nm:=n.name) (env:=env2) hfr hl0;rw [hren] at a1 a3;rw [←a3] at b1 b2;simp only at b1 b2 a1;have hd1:dueN (qC ts es) (binB n.op) 1=(qC ts es:Int):=by unfold dueN;rw [if_pos ⟨hbb,by omega⟩]
       have hd2:dueN (qC ts es) (binB n.op) 2=0:=by unfold dueN;rw [if_neg (by omega)]
       rw [hd1] at hdue;unfold pot at hdue;generalize (renI ts es env2 n.name body s2).1.1=env3 at *
       clear a2 a3 b3;generalize hFr:zD ts es (qC ts es) s2.last=R at *
       rcases hop with hop | hop | hop<;>rcases hbc with hbd | ⟨hbd,hml⟩
       all_goals
        simp [go_sem,e3,e4,e6,e8,e9,e11,e12,e13,et1,hrr,hlt,hlt1,hop,qr];refine qc.pure cn (.cons (.hf (zq ts)) (.cons (.hf (HF.sc _)) .nil)) ?_;simp [go_sem,e3,e4,e6,e8,e9,e11,e12,e13,et1,hrr,hlt,hlt1,hop,qr,hset.len];rw [if_pos hset.one];generalize putCells _ 0 C=PC
        first
        |simp [go_sem,e3,e4,e6,e8,e9,e11,e12,e13,et1,hrr,hlt,hlt1,hop,qr,hbd,hml]
        |simp [go_sem,e3,e4,e6,e8,e9,e11,e12,e13,et1,hrr,hlt,hlt1,hop,qr,hbd]
        refine qc.pure cf (.cons (.hf (uD ts l s2)) .nil) ?_;simp [go_sem,e3,e4,e6,e8,e9,e11,e12,e13,et1,hrr,hlt,hlt1,hop,qr,hbd];refine qx.move 2 2 (by kernel_rfl) (by kernel_rfl) ?_ ?_
        all_goals
         simp [go_sem,e3,e4,e6,e8,e9,e11,e12,e13,et1,hrr,hlt,hlt1,hop,qr,hbd];refine qiL (lo:=rr.length+6) (xs:=[]) (ys:=sc2) (OwnF.nil (by simp)) (by simp [zf]) (by simp at hlen ⊢;omega) ?_;intro av1 mu1 ho1 hk1;simp [go_sem,e3,e4,e6,e8,e9,e11,e12,e13,et1,hrr,hlt,hlt1,hop,qr,hbd];refine nt (y:=(n.name,⟨none,0,vN R⟩)) ho1 (by simp at hlen ⊢;omega) ?_;intro av2 mu2 ho2 hk2;have n0:=(hk2 0 (by omega)).trans (hk1 0 (by omega));have n1:=(hk2 1 (by omega)).trans (hk1 1 (by omega));have n2:=(hk2 2 (by omega)).trans (hk1 2 (by omega));have n3:=(hk2 3 (by omega)).trans (hk1 3 (by omega));simp at n0 n1 n2 n3;simp [go_sem,e3,e4,e6,e8,e9,e11,e12,e13,et1,hlt,hlt1,hop,qr,hbd];refine Keep.mk' ⟨false,rr.length+6,av2,sc2++[(n.name,⟨none,0,vN R⟩)],env3,vN R,⟨R,s2.cost⟩,av,hq,by simp [go_sem],.inr ⟨by simpa [go_sem] using ho2,?_,by omega⟩,⟨by simp [go_sem,e3,hbd],by simp [go_sem,e4],by simp [go_sem,e6],by simp [go_sem,e8],by simp [go_sem,e9],by simp [go_sem,e11],by simp [go_sem,e12],by simp [go_sem,e13],by simp [go_sem,n0],by simp [go_sem,n1],by simp [go_sem,n2],by simp [go_sem,n3,hop],?_,a1,a4,A.al,b1,A.c0,A.c1,A.z1,A.z2⟩,?_,?_,fun h=>by omega⟩
         ·intro b s o q e;have:=hav b s o q e;omega
         ·simp only [qT]
          refine nu A.ho hav (by have:=ho2.2.2;omega) fun j h4 hj=>?_
          obtain ⟨i,rfl⟩:∃ i,j=i+4:=⟨j-4,by omega⟩;rw [hk2 _ (by omega),hk1 _ (by omega),hrr];simp only [vI];rw [qz (by omega)]
         ·simp at hlen ⊢;omega
         ·rw [hd2];unfold pot;simp only;omega
      ·have hbf:body=false:=by cases body with
        |true=>exact absurd (.inl rfl) hcase
        |false=>rfl
       have hm0:ya ts n.name=[]:=Classical.byContradiction fun x=>hcase (.inr x)
       have hq:(if binB n.op=true∧1=1 then R' sc2 nm2 s2 else ((sc2,nm2),s2))=((sc2,nm2),s2):=by
        rw [if_pos ⟨hbb,rfl⟩,hR',hnm1];show renR ts es sc2 n.name body s2=_;unfold renR;rw [if_neg hcase]
       rcases hop with hop | hop | hop
       all_goals
        simp [go_sem,e3,e4,e6,e8,e9,e11,e12,e13,et1,hrr,hlt,hlt1,hop,qr];refine qc.pure cn (.cons (.hf (zq ts)) (.cons (.hf (HF.sc _)) .nil)) ?_;simp [go_sem,e3,e4,e6,e8,e9,e11,e12,e13,et1,hrr,hlt,hlt1,hop,qr,hset.len];rw [if_pos hset.one];generalize putCells _ 0 C=PC;simp [go_sem,e3,e4,e6,e8,e9,e11,e12,e13,et1,hrr,hlt,hlt1,hop,qr,hbf,hm0];refine Keep.mk' ⟨full,rr.length+5,.lst full (sc2.map cSb),sc2,env2,nm2,s2,av,hq,by simp [go_sem,et1],.inl rfl,A.keep (by simp [go_sem,e3,hbf]) (by simp [go_sem,e4]) (by simp [go_sem,e6]) (by simp [go_sem,e8]) (by simp [go_sem,e9]) (by simp [go_sem,e11]) (by simp [go_sem,e12]) (by simp [go_sem,e13]) (rr.length+4) (by omega) ?_ (by simp [go_sem]) (fun j hj=>?_),?_,?_,fun h=>by omega⟩
        ·exact hav
        ·simp only [qT]
         rw [hrr]
         match j,hj with
         | 0,_=>rfl
         | 1,_=>rfl
         | 2,_=>rfl
         | 3,_=>simp [hop]
         |i+4,hj =>
          simp only [vI];rw [qz (by omega)]
        ·simp at hlen ⊢;omega
        ·have hd1:dueN (qC ts es) (binB n.op) 1=(qC ts es:Int):=by unfold dueN;rw [if_pos ⟨hbb,by omega⟩]
         have hd2:dueN (qC ts es) (binB n.op) 2=0:=by unfold dueN;rw [if_neg (by omega)]
         rw [hd1] at hdue;rw [hd2];omega
     ·have hn15:¬n.op=15:=fun e=>hbb (by simp [binB,e])
      have hn45:¬n.op=45:=fun e=>hbb (by simp [binB,e])
      have hn46:¬n.op=46:=fun e=>hbb (by simp [binB,e])
      simp [go_sem,e3,e4,e6,e8,e9,e11,e12,e13,et1,hrr,hlt,hlt1,hn15,hn45,hn46,qr];refine Keep.mk' ⟨full,4,.lst full (sc2.map cSb),sc2,env2,nm2,s2,av,by rw [if_neg (fun x=>hbb x.1)],by simp [go_sem,et1],.inl rfl,A.same (by simp [go_sem,e3]) (by simp [go_sem,e4]) (by simp [go_sem,e6]) (by simp [go_sem,e8]) (by simp [go_sem,e9]) (by simp [go_sem,e11]) (by simp [go_sem,e12]) (by simp [go_sem,e13]) (by simp [go_sem,hrr]),?_,?_,fun h=>by omega⟩
      ·simp at hlen ⊢;omega
      ·rw [←Vs (fun x=>hbb x.1)];exact hdue
    ·have hk1':¬(k:Int)=1:=by omega
     simp [go_sem,e3,e4,e6,e8,e9,e11,e12,e13,et1,hrr,hlt,hk1',qr];refine Keep.mk' ⟨full,4,.lst full (sc2.map cSb),sc2,env2,nm2,s2,av,by rw [if_neg (fun x=>hk1 x.2)],by simp [go_sem,et1],.inl rfl,A.same (by simp [go_sem,e3]) (by simp [go_sem,e4]) (by simp [go_sem,e6]) (by simp [go_sem,e8]) (by simp [go_sem,e9]) (by simp [go_sem,e11]) (by simp [go_sem,e12]) (by simp [go_sem,e13]) (by simp [go_sem,hrr]),?_,?_,fun h=>hnm (by omega)⟩
     ·split at hlen<;>split<;>omega
     ·rw [←Vs (fun x=>hk1 x.2)];exact hdue
   ·rintro st ⟨full,lo,sl,sc3,env3,nm3,s3,av,hq,et1,hsl,A,hlen,hdue,hnm⟩
    rw [hq] at hI;simp only at hI;have hst3:StOk (qC ts es) s3:=⟨A.l0,by have:=A.c0;omega,A.c1,by have:=Qj (qC ts es) (binB n.op) (k+1);omega⟩;have hlen3:(sc3.length:Int)≤s3.cost+8:=by split at hlen<;>omega
    have x1:=hX1 n.kids[k] (qJ hlt) env3 sc3 s3 hst3 A.c0 A.en A.so hlen3;have x2:=hX2 n.kids[k] (qJ hlt) env3 sc3 s3 hst3 A.c0 A.en A.so;generalize E' sc3 n.kids[k] s3=q at *
    clear hX1 hX2;rw [qbQ,qbR];refine qx.fz (qiK (fun st=>∃ full,st.tm 1 = .lst full (sc3.map cSb)∧AtK ts l es n body s k sc3 env3 nm3 s3 acc av z st) ?_ ?_)
    ·rcases hsl with hsl | ⟨ho9,hav,h4⟩
     ·exact FzQ.skip ⟨full,by rw [et1,hsl],A⟩
     ·refine FzQ.own (d:=1) et1 ho9 (ZR sc3) (fun r hr c hc=>by obtain ⟨x,_,rfl⟩:=qE.1 hr;exact VI x c hc) ?_
      intro mu' full2 hl2 hk2;refine ⟨full2,by simp [go_sem],A.keep (by simp [go_sem,A.e3]) (by simp [go_sem,A.e4]) (by simp [go_sem,A.e6]) (by simp [go_sem,A.e8]) (by simp [go_sem,A.e9]) (by simp [go_sem,A.e11]) (by simp [go_sem,A.e12]) (by simp [go_sem,A.e13]) lo h4 hav ?_ ?_⟩
      ·have:=A.ho.2.2;simp only [qT];omega
      ·intro j hj;simp only [qT];exact hk2 j hj
    rintro st ⟨full,et1,A⟩;obtain ⟨rr,hrr⟩:=four A.m0 A.m1 A.m2 A.m3;have e3:=A.e3;have e4:=A.e4;have e6:=A.e6;have e8:=A.e8;have e9:=A.e9;have e11:=A.e11;have e12:=A.e12;have e13:=A.e13;have hone:=A.ho.one;have hcel:=A.ho.cells;refine qx.seg [0,1,2,3,4,5,6,7,8,9,10,11,12,17,13,14,15,16] [(0,0,[]),(1,0,[]),(2,0,[]),(3,0,[]),(4,0,[]),(5,0,[]),(6,0,[]),(7,0,[]),(8,1,[]),(9,0,[]),(10,0,[]),(11,0,[]),(12,0,[]),(17,0,[]),(13,2,[0,3,6]),(14,2,[0,3,6]),(15,1,[]),(16,1,[])] (by kernel_rfl) (by kernel_rfl) (by simp [go_sem]) ?_;simp [go_sem,e3,e4,e6,e8,e9,e11,e12,e13,et1,hrr,hlt,qr,hone,hcel];refine qc.pure x1 (.cons (.hf (uD ts l s3)) (.cons (WK.lst fun r hr c hc=>by
     obtain ⟨x,_,rfl⟩:=qE.1 hr;exact VI x c hc) (.cons (.hf (qO _)) (.cons (.hf (HF.sc _)) .nil)))) ?_
    simp [go_sem,e3,e4,e6,e8,e9,e11,e12,e13,et1,hrr,hlt,qr,hone,hcel];by_cases hbig:4000<q.1.cost
    ·rw [if_pos hbig] at hI
     have hI:RES=(q.1,nd0,0):=hI.symm;simp [go_sem,e3,e4,e6,e8,e9,e11,e12,e13,et1,hrr,hlt,qr,hone,hcel,hbig];rw [hI];exact rdZ ts l q.1
    ·rcases x2 with x2 | ⟨_,g⟩
     ·exact absurd x2 hbig
     rw [if_neg hbig] at hI;simp [go_sem,e3,e4,e6,e8,e9,e11,e12,e13,et1,hrr,hlt,qr,hone,hcel,hbig];obtain ⟨g1,g2,g3⟩:=VH g hst3;have gz:=g.z0;have gcz:=g.cz;have gc1:=g.c1;have gp:=g.p;have hz1:=A.z1;have hz2:=A.z2;have hc0:=A.c0;have hal:=A.al;have hmu4:=A.ho.2.2;refine YD.jY (lo:=4) (xs:=acc) ?_ (by omega) ?_
     ·have h1:OwnF 4 (st.mu++[Cell.arr (cWk ts l q.1),Cell.arr (cNd q.2.1)]) 5 av (acc.map cNd):=YD.wC A.ho (by simp;omega) fun i _ hi=>qz hi
      rw [hrr] at h1;have h2:=OwnF.set (i:=0) (c:=Cell.arr (cWk ts l q.1)) h1 (by omega);simpa using h2
     intro av' mu' ho2 hk2;have n0:=hk2 0 (by omega);have n1:=hk2 1 (by omega);have n2:=hk2 2 (by omega);have n3:=hk2 3 (by omega);simp at n0 n1 n2 n3;obtain ⟨r2,hr2⟩:=four n0 n1 n2 n3;have hone2:=ho2.one;have hcel2:=ho2.cells;have w3:IntKind.i64.wrap (z+q.2.2)=z+q.2.2:=qy (by omega) (by omega);simp [go_sem,e3,e4,e6,e8,e9,e11,e12,e13,et1,hr2,hlt,qr,hone2,hcel2,hbig,w2,w3];refine Keep.mk' ⟨full,sc3,env3,nm3,q.1,acc++[q.2.1],av',z+q.2.2,by simp [go_sem,et1],⟨by simp [go_sem,e3],by simp [go_sem,e4],by simp [go_sem,e6],by simp [go_sem,e8],by simp [go_sem,e9],by simp [go_sem,e11],by simp [go_sem],by simp [go_sem],by simp [go_sem],by simp [go_sem],by simp [go_sem],by simp [go_sem],?_,A.so,A.en,by simp [hal],g1.l0,by omega,gc1,by omega,by omega⟩,by omega,by omega,hnm,?_⟩
     ·have h2:=OwnF.set (i:=3) (c:=Cell.arr [aI n.op,aS nm3,aI n.n,av',aI n.pos]) ho2 (by omega)
      rw [hr2] at h2;simpa [go_sem] using h2
     ·rw [←hI]
      generalize vV E' R' (binB n.op) (k+1) sc3 nm3 (List.drop (k+1) n.kids) q.1=X;cases X with
      |error e=>rfl
      |ok r =>
       obtain ⟨⟨a,b,c⟩,d⟩:=r;simp [resK];omega
  ·simp [go_sem,e3,e4,e6,e8,e9,e11,e12,e13,et1,hrr,hlt,qr,hone,hcel]
   refine qx.seg [0,1,2,5,3,4] [(0,0,[]),(1,0,[]),(2,0,[]),(5,0,[]),(3,1,[1]),(4,1,[])] (by kernel_rfl) (by kernel_rfl) (by simp [go_sem]) ?_;simp [go_sem,e3,e4,e6,e8,e9,e11,e12,e13,et1,hrr,hlt,qr,hone,hcel];rw [VL (by omega)] at hI;have hI:RES=(s2,.mk n.op nm2 n.n acc n.pos,z):=by rw [←hI];simp [vV,resK]
   rw [hI];refine .tup _ _ rfl fun k x y hx hy=>?_
   match k,hx,hy with
   | 0,hx,hy=>cases hx;cases hy;exact .hf _ (uD ts l s2)
   | 1,hx,hy =>
    cases hx;cases hy;have ecn:eNd (.mk n.op nm2 n.n acc n.pos) = .agg [aI n.op,aS nm2,aI n.n,.lst false (acc.map cNd),aI n.pos]:=by
     show AV.agg (cNd _)=_;rw [yk];rfl
    show Rd _ _ (eNd (.mk n.op nm2 n.n acc n.pos));rw [ecn];refine .agg _ _ rfl fun k x y hx hy=>?_
    match k,hx,hy with
    | 0,hx,hy=>cases hx;cases hy;exact .hf _ (HF.sc _)
    | 1,hx,hy=>cases hx;cases hy;exact .hf _ (HF.sc _)
    | 2,hx,hy=>cases hx;cases hy;exact .hf _ (HF.sc _)
    | 3,hx,hy =>
     cases hx;cases hy;have h1:=OwnF.set (i:=1) (c:=Cell.arr (cWk ts l s2)) A.ho (by omega);have h2:=OwnF.set (i:=2) (c:=Cell.arr [aI n.op,aS nm2,aI n.n,av,aI n.pos]) h1 (by omega);rw [hrr] at h2;exact h2.1.rd (YD.Yz acc).ok fun r hr c hc=>by
      obtain ⟨x,_,rfl⟩:=qE.1 hr;exact jb x c hc
    | 4,hx,hy=>cases hx;cases hy;exact .hf _ (HF.sc _)
    |k+5,hx,hy=>cases hx
   | 2,hx,hy=>cases hx;cases hy;exact .hf _ (HF.sc _)
   |k+3,hx,hy=>cases hx
end Go.Proofs.YtcfopdccdeeleaaGreatDoor.RA


namespace Go.Proofs.YtcfopdccdeeleaaGreatDoor.RB
open Go Go.Ev Go.Proofs Go.Proofs.YtcfopdccdeeleaaGreatDoor YM YS YF Y9 Y10 Y1 Y2 Y3 Y4 YX YZ YA YB YC YE YG YH P1 P2 PA Q4 Q6 PF QD QE QI QK QS QT QV QW QX QY QZ RA
theorem ny (l:List Nd):∀(es:List (ByteArray×Bool)) (nm:ByteArray),getK nm (putN es l)=some true↔(getK nm es=some true∨∃ x,x∈l∧x.name=nm):=by
 induction l with
 |nil=>intro es nm;exact ⟨fun h => .inl h,fun h=>h.elim id fun ⟨x,hx,_⟩=>absurd hx zb⟩
 |cons a l ih =>
  intro es nm;have e:putN es (a :: l)=putN (setK a.name true es) l:=rfl;rw [e,ih,Zl];by_cases e:nm=a.name
  ·rw [if_pos e]
   exact ⟨fun _ => .inr ⟨a,zG ..,e.symm⟩,fun _ => .inl rfl⟩
  ·rw [if_neg e]
   constructor
   ·rintro (h | ⟨x,hx,hn⟩)
    ·exact .inl h
    ·exact .inr ⟨x,zt _ hx,hn⟩
   ·rintro (h | ⟨x,hx,hn⟩)
    ·exact .inl h
    ·rcases qK.1 hx with rfl | hx
     ·exact absurd hn.symm e
     ·exact .inr ⟨x,hx,hn⟩
theorem qiM (l:List Pd):∀(es:List (ByteArray×Bool)) (nm:ByteArray),getK nm (l.foldl (fun es p=>putN es (preN p.body)) es)=some true↔(getK nm es=some true∨∃ p,p∈l∧∃ x,x∈preN p.body∧x.name=nm):=by
 induction l with
 |nil=>intro es nm;exact ⟨fun h => .inl h,fun h=>h.elim id fun ⟨x,hx,_⟩=>absurd hx zb⟩
 |cons a l ih =>
  intro es nm;rw [List.foldl_cons,ih,ny];constructor
  ·rintro ((h | h) | ⟨p,hp,h⟩)
   ·exact .inl h
   ·exact .inr ⟨a,zG ..,h⟩
   ·exact .inr ⟨p,zt _ hp,h⟩
  ·rintro (h | ⟨p,hp,h⟩)
   ·exact .inl (.inl h)
   ·rcases qK.1 hp with rfl | hp
    ·exact .inl (.inr h)
    ·exact .inr ⟨p,hp,h⟩
structure Ti (es:List (ByteArray×Bool)):Prop where
 nd:(es.map Prod.fst).Nodup
 tr:∀ e,e∈es→e.2=true
theorem Ti.put (l:List Nd):∀{es:List (ByteArray×Bool)},Ti es→Ti (putN es l):=by
 induction l with
 |nil=>intro es h;exact h
 |cons a l ih =>
  intro es h;refine ih (es:=setK a.name true es) ⟨uT h.nd,fun e he=>?_⟩;rcases Vv he with rfl | he
  ·rfl
  ·exact h.tr e he
theorem Ti.puts (l:List Pd):∀{es:List (ByteArray×Bool)},Ti es→Ti (l.foldl (fun es p=>putN es (preN p.body)) es):=by
 induction l with
 |nil=>intro es h;exact h
 |cons a l ih=>intro es h;exact ih (h.put _)
theorem Xm {nm:ByteArray} (n:Nd) (hn:nm≠⟨#[]⟩):nm∈namL n↔∃ x,x∈preN n∧x.name=nm:=by
 unfold namL;rw [qE];constructor
 ·rintro ⟨x,hx,e⟩
  exact ⟨x,(jL.1 hx).1,e⟩
 ·rintro ⟨x,hx,e⟩
  exact ⟨x,jL.2 ⟨hx,by rw [e];simpa using hn⟩,e⟩
theorem takTn (ts:TS) (n:Nd):Tn (takL ts n) (yY ts n):=by
 have hm:∀ nm:ByteArray,nm≠⟨#[]⟩→(nm∈takL ts n↔getK nm (yY ts n)=some true):=fun nm hn=>by
  unfold takL yY;rw [qiM,ny,zh,Xm n hn,List.mem_flatMap];constructor
  ·rintro (h | ⟨p,hp,h⟩)
   ·exact .inl (.inr h)
   ·exact .inr ⟨p,hp,(Xm _ hn).1 h⟩
  ·rintro ((h | h) | ⟨p,hp,h⟩)
   ·cases h
   ·exact .inl h
   ·exact .inr ⟨p,hp,(Xm _ hn).2 h⟩
 refine ⟨hm,?_⟩;have ht:Ti (yY ts n):=Ti.puts _ (Ti.put _ ⟨.nil,fun e he=>absurd he zb⟩);have:=List.Nodup.length_le_of_subset (l₂:=⟨#[]⟩ :: takL ts n) ht.nd fun x hx=>by
  by_cases e:x=⟨#[]⟩
  ·rw [e];exact zG ..
  ·refine zt _ ((hm x e).2 ?_)
   obtain ⟨q,hq,rfl⟩:=qE.1 hx;have h2:=ht.tr q hq;have h3:=(Zm ht.nd (k:=q.1) (v:=q.2)).2 hq;rw [h3,h2]
 simpa using this
theorem nz (ts:TS) (h:okTS ts) (l:List ByteArray) (es:List (ByteArray×Bool)) (t:Tn l es) (hl:l.length≤400000) (hF:qC ts es≤200000) (hfr:Free ts es) (hb:∀ p,p∈ts.preds→WfN p.body∧yv ts p.body):∀(f:Nat) (env:IEnv) (sc:List Sb) (n:Nd) (body:Bool) (s:ISt),Pre ts es f env sc n body s→ExpW ts l es f sc n body s
 | 0,env,sc,n,body,s,p=>by have:=p.fu;have:=p.st.c1;omega
 |f+1,env,sc,n,body,s,p=>by
  have ih:=nz ts h l es t hl hF hfr hb f;by_cases hc:s.cost+1≤4000
  case neg=>exact expZ ts l es f env sc n body s p hc
  by_cases h1:n.op=1
  ·exact expN ts l es f env sc n body s p hc h1
  by_cases h47:n.op=47
  ·obtain ⟨pd,hp,hlen⟩:=p.cl n (Vo n) h47
   have e1:(payS 1 s).cost=s.cost+1:=rfl;exact expC ts l es f env sc n body s p hc h47 pd hp (replW ts h l es hfr hb f ih env sc n body (payS 1 s) ⟨by have:=p.fu;omega,(wB p.st (by omega) hc).ok p.st,p.en,p.wf,p.cl,p.so,by have:=p.le;omega⟩ h47 pd hp hlen)
  ·exact expK ts h l es t hl hF hfr hb f ih env sc n body s p hc h1 h47
theorem inlRU (ts:TS) (h:okTS ts) (hv:∀ p,p∈ts.preds→yj p.body=true) (hb:∀ p,p∈ts.preds→WfN p.body∧yv ts p.body) (n:Nd) (hn:yj n=true) (hcl:(yK ts [] n).1=0→yv ts n):qt Tryz.prog 24 [eTS ts,eNd n] (.tup [eNd (jw ts n).1,aI (jw ts n).2]):=by
 have hw:=vd hn;have hnv:=Qn.1 hn;have hwp:∀ p,p∈ts.preds→WfN p.body:=fun p hp=>(hb p hp).1
 have hpl:∀ p,p∈ts.preds→(preN p.body).length≤400:=fun p hp=>by have:=(Qn.1 (hv p hp)).2.2.1;have:=Jk p.body;omega
 have hnl:(preN n).length≤400:=by have:=hnv.2.2.1;have:=Jk n;omega
 have hF:=na h hv hn;have hT:=takTn ts n;have hnp:=h.np;have hll:(takL ts n).length≤400000:=by
  have h1:∀ L:List Pd,(∀ p,p∈L→(preN p.body).length≤400)→(L.flatMap fun p=>namL p.body).length≤400*L.length:=by
   intro L;induction L with
   |nil=>intro _;simp
   |cons a L ih =>
    intro hL;have a1:=ih fun p hp=>hL p (zt _ hp)
    have a2:=VF a.body;have a3:=hL a (zG ..);rw [u9,zr,List.length_cons];omega
  have a1:=h1 ts.preds hpl;have a2:=VF n;unfold takL;rw [zr];omega
 have hfr:=pu ts (yY ts n);have hst:StOk (qC ts (yY ts n)) ⟨0,0⟩:=⟨by simp,by simp,by simp,by simp [pot]⟩;have cf:=Xa ts h hwp [] ⟨by simp,by simp⟩ (by simp) n hw hnv.2.2.2;have chc:=kS (szN n) n (qB _) hw.small;have ct:=qiB ts h hwp n hw hnl hpl;have wkf:WKs [eTS ts,.lst true [],eNd n] [eTS ts,lPm [],eNd n] := .cons (.hf (zq ts)) (.cons (WK.lst fun r hr=>absurd hr zb) (.cons (.hf (qO n)) .nil));have wkc:WKs [eTS ts,eNd n] [eTS ts,eNd n] := .cons (.hf (zq ts)) (.cons (.hf (qO n)) .nil);generalize hR:jw ts n=R;unfold jw at hR;by_cases hc:(yK ts [] n).1=0
 case neg =>
  rw [if_pos hc] at hR;subst hR;refine qSQ Tryz.call24 Tryz.func24 rfl {} ?_;simp [go_sem];refine qc.pure cf wkf ?_;simp [go_sem,hc];refine qx.seg [0,1,2,4,3] [(0,0,[]),(1,0,[]),(2,0,[]),(4,0,[]),(3,1,[2])] (by kernel_rfl) (by kernel_rfl) (by simp [go_sem]) ?_;simp [go_sem,hc];exact ZA _ _
 rw [if_neg (by simpa using hc)] at hR;cases ha:anyN (fun n=>decide (n.op=47)) n with
 |false =>
  rw [ha] at hR chc;rw [if_pos rfl] at hR;subst hR;refine qSQ Tryz.call24 Tryz.func24 rfl {} ?_;simp [go_sem];refine qc.pure cf wkf ?_;simp [go_sem,hc];refine qc.pure chc (.cons (.hf (qO n)) .nil) ?_;simp [go_sem,hc];exact .hf _ (HF.tup fun x hx=>by
   simp only [qK,zb,or_false] at hx;rcases hx with rfl | rfl
   ·exact qO n
   ·exact HF.sc _)
 |true =>
  rw [ha] at hR chc;rw [if_neg (by simp)] at hR;have hcn:=hcl hc;have cx:=nz ts h (takL ts n) (yY ts n) hT hll hF hfr hb 4001 [] [] n false ⟨0,0⟩ ⟨by simp,hst,.nil,hw,hcn,⟨fun nm=>rfl,fun _ nm v hv=>(by cases hv),fun e he=>absurd he zb⟩,by simp⟩;have ho:=ZP ts (yY ts n) hfr hb 4001 [] [] n false ⟨0,0⟩ (by simp) hst .nil hw hcn ⟨fun nm=>rfl,fun _ nm v hv=>(by cases hv),fun e he=>absurd he zb⟩;have hsz:=fun {n' z s'}=>Qk ts hwp (yY ts n) 4001 (env:=[]) (n:=n) (n':=n') (body:=false) (s:=⟨0,0⟩) (s':=s') (z:=z) (fun e he=>absurd he zb) hw
  have hgo:=fun {n' z s'}=>vF ts hfr 4001 (env:=[]) (n:=n) (n':=n') (body:=false) (s':=s') (z:=z) hst .nil
  have hel:=fun {d}=>YI ts (yY ts n) 4001 (env:=[]) (n:=n) (body:=false) (s:=⟨0,0⟩) (d:=d)
  unfold outI at hR;unfold ExpW at cx;generalize expR ts (yY ts n) 4001 [] n false ⟨0,0⟩=q at *
  generalize expI ts (yY ts n) 4001 [] n false ⟨0,0⟩=E at *
  have hRq:(4000<q.1.cost∧R=(nd0,2))∨(¬ 4000<q.1.cost∧Small q.2.1∧depN q.2.1≤1000000∧((400<q.2.2∧R=(nd0,2))∨(¬ 400<q.2.2∧24<depN q.2.1∧R=(nd0,2))∨(¬ 400<q.2.2∧¬ 24<depN q.2.1∧R=(q.2.1,0)))):=by
   cases E with
   |error d =>
    have:=hel rfl;subst this;exact .inl ⟨ho.1,hR.symm⟩
   |ok r =>
    obtain ⟨⟨m,y⟩,t⟩:=r;obtain ⟨o1,o2,o3⟩:=ho;obtain ⟨s1,s2⟩:=hsz rfl;have g:=hgo rfl;have gc:=g.c1;have gz:=g.cz;have dl:=WI m;rw [o1,o2,o3];have gz:0+y≤t.cost:=gz;refine .inr ⟨by omega,s2,by omega,?_⟩;simp only at hR;by_cases z1:y≤400
    ·by_cases z2:depN m≤24
     ·rw [if_pos ⟨z1,z2⟩] at hR
      exact .inr (.inr ⟨by omega,by omega,hR.symm⟩)
     ·rw [if_neg (fun x=>z2 x.2)] at hR
      exact .inr (.inl ⟨by omega,by omega,hR.symm⟩)
    ·rw [if_neg (fun x=>z1 x.1)] at hR
     exact .inl ⟨by omega,hR.symm⟩
  clear hR ho hsz hgo hel;refine qSQ Tryz.call24 Tryz.func24 rfl {} ?_;simp [go_sem];refine qc.pure cf wkf ?_;simp [go_sem,hc];refine qc.pure chc (.cons (.hf (qO n)) .nil) ?_;simp [go_sem,hc];refine qx.seg [0,1,2,5,3,4,6,7,8,9,10,15,11,12,13,14] [(0,0,[]),(1,0,[]),(2,0,[]),(5,0,[]),(3,1,[0,5]),(4,0,[]),(6,1,[]),(7,0,[]),(8,0,[]),(9,0,[]),(10,0,[]),(15,0,[]),(11,2,[0,1,2,5]),(12,2,[0,1,2,5]),(13,1,[]),(14,1,[])] (by kernel_rfl) (by kernel_rfl) (by simp [go_sem]) ?_;simp [go_sem,hc];refine qc.pure ct wkc ?_;simp [go_sem,hc];refine qc.pure cx ?_ ?_
  ·exact .cons (.hf (uD ts (takL ts n) ⟨0,0⟩)) (.cons (WK.lst fun r hr=>absurd hr zb) (.cons (.hf (qO n)) (.cons (.hf (HF.sc _)) .nil)))
  simp [go_sem,hc];have hrd:∀ mu:Mu,Rd mu (.tup [eNd q.2.1,aI 0]) (.tup [eNd q.2.1,aI 0]):=fun mu => .hf _ (HF.tup fun x hx=>by
   simp only [qK,zb,or_false] at hx;rcases hx with rfl | rfl
   ·exact qO _
   ·exact HF.sc _)
  rcases hRq with ⟨g1,g2⟩ | ⟨g1,gs,gd,⟨g2,g3⟩ | ⟨g2,g3,g4⟩ | ⟨g2,g3,g4⟩⟩
  ·rw [g2]
   simp [go_sem,hc,g1];exact ZA _ _
  ·rw [g3]
   simp [go_sem,hc,g1,g2];exact ZA _ _
  ·rw [g4]
   simp [go_sem,hc,g1,g2];refine qc.pure (Xk (szN q.2.1) q.2.1 (qB _) gs gd) (.cons (.hf (qO _)) .nil) ?_;simp [go_sem,hc,g1,g2,g3];exact ZA _ _
  ·rw [g4]
   simp [go_sem,hc,g1,g2];refine qc.pure (Xk (szN q.2.1) q.2.1 (qB _) gs gd) (.cons (.hf (qO _)) .nil) ?_;simp [go_sem,hc,g1,g2,g3];exact hrd _
end Go.Proofs.YtcfopdccdeeleaaGreatDoor.RB


namespace Go.Proofs.YtcfopdccdeeleaaGreatDoor.W31
open Go Go.Ev Go.Proofs Go.Proofs.YtcfopdccdeeleaaGreatDoor P1 P2 Y1 Y2 Y3 Y4 YF Y9 Y14 Y16 YW YX YZ YA YB PA YC YE YG YH Q4 Q5 Q6 Q7 Q8 Q9 QA QB
theorem qiN {ns:Nat} {env:List (ByteArray×Int)} (h:parB ns env=true):vB ns env:=⟨by have:=(Vl h).1;omega,(Vl h).2⟩
end Go.Proofs.YtcfopdccdeeleaaGreatDoor.W31


namespace Go.Proofs.YtcfopdccdeeleaaGreatDoor.W37
open Go Go.Ev Go.Proofs Go.Proofs.YtcfopdccdeeleaaGreatDoor QU Y15 P1 P2 Y1 Y2 Y3 Y4 YF Y9 Y10 Y14 Y16 YW YX YZ YA YB PA YC YE YG YH Q4 Q5 Q6 Q7 Q8 Q9 QA QB PB PF QT W31
theorem nA:∀(m:Nat) (n:Nd),szN n≤m→eqN n n=true
 | 0,n,hm=>by obtain ⟨op,nm,i,ks,p⟩:=n;simp [szN] at hm
 |m+1,n,hm=>by
  rw [kR];simp only [decide_true,Bool.true_and];have:∀ l:List Nd,(∀ k,k∈l→k∈n.kids)→eqNs l l=true:=by
   intro l;induction l with
   |nil=>intro _;rfl
   |cons k l ih =>
    intro hl;simp only [eqNs,Bool.and_eq_true];exact ⟨nA m k (by have:=yu (hl k (zG ..));omega),ih fun x hx=>hl x (zt _ hx)⟩
  exact this n.kids fun k hk=>hk
theorem nB:Small nd0 := .mk _ (by simp [nd0,Nd.kids]) fun k hk=>absurd hk zb
theorem qiO {ts:TS} (h:yC ts=true):∀ p,p∈ts.preds→yj p.body=true:=by
 simp only [yC,limB,fldB,Bool.and_eq_true,decide_eq_true_eq,List.all_eq_true] at h;obtain ⟨⟨⟨⟨h1,h2⟩,h3⟩,h4⟩,hf,hp,ha⟩:=h;exact fun p hm=>(hp p hm).2
theorem qiP {ts:TS} (h:yC ts=true):∀ f,f∈ts.facts→yj f.2=true:=by
 simp only [yC,limB,fldB,Bool.and_eq_true,decide_eq_true_eq,List.all_eq_true] at h;obtain ⟨⟨⟨⟨h1,h2⟩,h3⟩,h4⟩,hf,hp,ha⟩:=h;exact fun p hm=>ha p hm
end Go.Proofs.YtcfopdccdeeleaaGreatDoor.W37


namespace Go.Proofs.YtcfopdccdeeleaaGreatDoor.W32
open Go Go.Ev Go.Proofs Go.Proofs.YtcfopdccdeeleaaGreatDoor Y15 P1 P2 Y1 Y2 Y3 Y4 YF Y9 Y14 Y16 YW YX YZ YA YB PA YC YE YG YH Q4 Q5 Q6 Q7 Q8 Q9 QA QB PB W31
theorem qiQ {ts:TS} (ok:okTS ts):(jf ts).length≤1000:=by
 have h1:=jz (repL (fun x y:ByteArray×Bool=>decide (x.1=y.1)) ts.sorts);have h2:=jz (repL (fun x y:Fld=>decide (x.name=y.name)&&decide (x.sorts=y.sorts)) ts.fields);rw [yQ] at h1 h2;have h3:=Qi (je ts) (Ve ok) ts.preds.length;have h4:=Qi (jK ts ts.facts) (Wq ts ts.facts) ts.facts.length;have:=ok.ns;have:=ok.nf;have:=ok.np;have:=ok.nfa;unfold jf;simp only [zr];omega
theorem nE (l:List Dg):zC 2 (l.map cDg):=fun r hr=>by
 obtain ⟨n,_,rfl⟩:=qE.1 hr;exact ⟨rfl,rfl⟩
theorem uC {mu:Mu} {lo:Nat} {s x:AV} {xs ys:List Dg} {K:AV→Mu→Prop} (ho:OwnF lo mu 2 s (xs.map cDg)) (hx:zf mu x=some (ys.map cDg)) (hl:xs.length+ys.length≤100000) (kk:∀ av mu',OwnF lo mu' 2 av ((xs++ys).map cDg)→(∀ i,i<lo→mu'[i]?=mu[i]?)→K av mu') :
  zo Tryz.prog mu #[36,36] s x K:=by
 refine zo.ownF (lo:=lo) (e:=44) (sz:=2) (bt:=16) (zv := .agg [aI 0,aI 0]) (xs:=xs.map cDg) (ys:=ys.map cDg) (by simp [go_sem]) (by simp [go_sem]) (by simp [go_sem]) rfl rfl (by omega) (by omega) ho hx (nE xs) (nE ys) (by simp;omega) ?_;intro av mu' h h2;exact kk av mu' (by rw [List.map_append];exact h) h2
end Go.Proofs.YtcfopdccdeeleaaGreatDoor.W32


namespace Go.Proofs.YtcfopdccdeeleaaGreatDoor.W36
open Go Go.Ev Go.Proofs Go.Proofs.YtcfopdccdeeleaaGreatDoor QU Y15 P1 P2 Y1 Y2 Y3 Y4 YF Y9 Y10 Y14 Y16 YW YX YZ YA YB PA YC YE YG YH Q4 Q5 Q6 Q7 Q8 Q9 QA QB PB PF QT QV QZ RB W31 W37
theorem qiR (ts:TS) (hwp:∀ p,p∈ts.preds→WfN p.body) {n:Nd} (hw:WfN n):Small (jw ts n).1:=by
 unfold jw;split
 ·exact nB
 ·split
  ·exact hw.small
  ·cases ho:outI ts (yY ts n) n with
   |error d=>exact nB
   |ok x =>
    unfold outI at ho;split at ho
    ·cases ho
    ·rename_i n' z s' he
     split at ho
     ·cases ho
      exact (Qk ts hwp _ 4001 (fun e he=>absurd he zb) hw he).2
     ·cases ho
theorem qiS (ts:TS) (hs:∀ x,x∈ts.sorts→x.1.size≤4611686018427387904) (env:List (ByteArray×Int)) (n:Nd):qt Tryz.prog 3 [eTS ts,lPm env,eNd n] (aB true):=by
 refine qSQ Tryz.call3 Tryz.func3 rfl {} ?_;simp [go_sem];refine qc.pure headU .nil ?_;simp [go_sem];refine qc.pure (qeC ts) (.cons (.hf (zq ts)) .nil) ?_;cases hf:yC ts with
 |false=>simp [go_sem];exact .hf _ (HF.sc _)
 |true =>
 obtain ⟨ok,wp,wfa⟩:=Wx hf hs;have hv:=qiO hf;simp [go_sem];refine qc.pure (kT ts env) (.cons (.hf (zq ts)) (.cons (.hf (jJ env)) .nil)) ?_;cases hp:parB ts.sorts.length env with
 |false=>simp [go_sem];exact .hf _ (HF.sc _)
 |true =>
 have he:=qiN hp;have hel:env.length≤1000:=by have:=(Vl hp).1;omega
 simp [go_sem];refine qc.pure (Wu n) (.cons (.hf (qO n)) .nil) ?_;cases hn:yj n with
 |false=>simp [go_sem];exact .hf _ (HF.sc _)
 |true =>
 have wn:=vd hn;have dn:=(Qn.1 hn).2.2.2;have dp:∀ p,p∈ts.preds→depN p.body≤24:=fun p hp=>(Qn.1 (hv p hp)).2.2.2
 have df:∀ f,f∈ts.facts→depN f.2≤24:=fun f hf'=>(Qn.1 (qiP hf f hf')).2.2.2
 have cR:=qhS ts ok wp wfa dp df;have cC:=kz ts ok wp wfa;have tC:=Vi ts ok wp n wn env he;have tR:=qh2 ts ok wp env he hel n wn dn;have fC:=Qg ts ok wp n wn env he;have fR:=Xa ts ok wp env he hel n wn dn;have wke:WKs [eTS ts,lPm env,eNd n] [eTS ts,lPm env,eNd n] := .cons (.hf (zq ts)) (.cons (.hf (jJ env)) (.cons (.hf (qO n)) .nil));have sD:=qfP (jf ts) (jf ts) (by have:=W32.qiQ ok;omega);rw [decide_eq_true rfl] at sD;have hT:=qfQ ok wn he;have sT:=kQ (yo ts env n).1 (yo ts env n).1 (by omega) (fun x hx=>by have:=hT.2 x hx;omega);rw [decide_eq_true rfl] at sT;have wkd:WKs [lDg (jf ts),lDg (jf ts)] [lDg (jf ts),lDg (jf ts)] := .cons (.hf (pN _)) (.cons (.hf (pN _)) .nil);have wkt:WKs [lL (yo ts env n).1,lL (yo ts env n).1] [lL (yo ts env n).1,lL (yo ts env n).1] := .cons (.hf (QA.Yh _)) (.cons (.hf (QA.Yh _)) .nil);simp [go_sem];refine qc.pure cR (.cons (.hf (zq ts)) .nil) ?_;simp [go_sem];refine qc.pure tC wke ?_;simp [go_sem];refine qc.pure tR wke ?_;simp [go_sem];refine qx.intro (by kernel_rfl) ?_;simp [go_sem];refine qc.pure cC (.cons (.hf (zq ts)) .nil) ?_;simp [go_sem];refine qc.pure sD wkd ?_;simp [go_sem];refine qc.pure fC wke ?_;simp [go_sem];refine qc.pure fR wke ?_;simp [go_sem];refine qc.pure sT wkt ?_;simp [go_sem];by_cases hk:jf ts=[]
 case neg =>
  have hl:0<(jf ts).length:=Jn.2 hk;simp [go_sem,hl];exact .hf _ (HF.sc _)
 case pos =>
 have hl:(jf ts).length=0:=by rw [hk];rfl
 have hF:=na ok hv hn;have hb:∀ p,p∈ts.preds→WfN p.body∧yv ts p.body:=fun p hp=>⟨wp p hp,by
  obtain ⟨i,hi,rfl⟩:=List.mem_iff_getElem.1 hp;obtain ⟨_,ko,hx⟩:=g7 (qh6 hk i hi);exact Xf (vO ok (by omega)) (szN ts.preds[i].body) _ _ _ _ (qB _) hx (wp _ hp)⟩
 have hcl:(yK ts [] n).1=0→yv ts n:=fun hc=>by
  obtain ⟨_,ko,hx⟩:=g7 hc;exact Xf (vO ok (qB _)) (szN n) _ _ _ _ (qB _) hx wn
 have ci:=pw ts ok hb n wn hcl hF;have cr:=inlRU ts ok hv hb n hn hcl;have wki:WKs [eTS ts,eNd n] [eTS ts,eNd n] := .cons (.hf (zq ts)) (.cons (.hf (qO n)) .nil);have hsm:=qiR ts wp wn;generalize jw ts n=R at *
 have cs:=Wv (szN R.1) R.1 R.1 (qB _) hsm;rw [nA _ R.1 (qB _)] at cs;simp [go_sem,hl];refine qc.pure ci wki ?_;simp [go_sem];refine qc.pure cr wki ?_;simp [go_sem];refine qc.pure cs (.cons (.hf (qO R.1)) (.cons (.hf (qO R.1)) (.cons (.hf (HF.sc _)) .nil))) ?_;simp [go_sem];exact .hf _ (HF.sc _)
end Go.Proofs.YtcfopdccdeeleaaGreatDoor.W36


namespace Go.Proofs.YtcfopdccdeeleaaGreatDoor.DL
open Go Go.Ev Go.EvW Go.Proofs Go.Proofs.YtcfopdccdeeleaaGreatDoor Go.RowKit Go.ChangeShapes Go.WideShapes
theorem own:ownKnob Tryz.prog.godebug=none:=by kernel_rfl
theorem laid:laidOutB Tryz.prog=true:=by kernel_rfl
abbrev tabL : List (String × DataW Unit) := [("math/bits.deBruijn32tab", Rows.laid_math_bits_deBruijn32tab), ("math/bits.deBruijn64tab", Rows.laid_math_bits_deBruijn64tab), ("internal/strconv.uint64pow10", Rows.laid_internal_strconv_uint64pow10)]
def pows:List Int:=[1,10,100,1000,10000,100000,1000000,10000000,100000000,1000000000,10000000000,100000000000,1000000000000,10000000000000,100000000000000,1000000000000000,10000000000000000,100000000000000000,1000000000000000000,10000000000000000000]
theorem gPow : Tryz.prog.globalNamed "internal/strconv.uint64pow10" = some 0 := by kernel_rfl
theorem tPow:(Tryz.prog.globals[0]?).map (·.type)=some 256:=by kernel_rfl
theorem uPow:Tryz.prog.underlying 256=some (.array 20 214):=by kernel_rfl
theorem uU64:Tryz.prog.underlying 214=some (.int .u64):=by kernel_rfl
theorem qiT {W:World} (h:laidMetH Tryz.prog tabL W):wI (·<W.heap.size) W.heap:=by
  rw [MakeChecks.laidMetH_plain _ _ _ (by kernel_rfl)] at h;obtain ⟨ps,hl,_⟩:=h
  obtain ⟨g, t, cs, fuel, p, hg, ht, hv, hd⟩ := pI hl ("internal/strconv.uint64pow10", Rows.laid_internal_strconv_uint64pow10) (by simp)
  obtain rfl:=Option.some.inj (gPow.symm.trans hg);obtain rfl:=Option.some.inj (tPow.symm.trans ht);have hc:cs.toList=pows.map fun i => .int .u64 i:=qe7 uPow uU64 (by kernel_rfl) (by kernel_rfl) (ns:=pows) hd
  obtain ⟨e,fr,ho⟩:=qe8 gPow hv;intro x hx;have hx:x∈[(0,pows.map fun i=>Value.int .u64 i)]:=hx;rw [zj] at hx;subst hx;refine ⟨(Array.getElem?_eq_some_iff.1 ho).1,e,fr,?_⟩;show W.heap[0]?=_;rw [ho];have:cs=(pows.map fun i=>Value.int .u64 i).toArray:=by rw [←hc]
  rw [this]
theorem qiU (os:Os) (args:Array Value):laidMetH Tryz.prog tabL ((World.doorLaid Tryz.prog 4000 os).forCall (fun _ _=>0) ⟨#[],args,[]⟩).memory:=
 laidMetH_of_parts3 (fuel:=8) (laidMet_of_run' 8 (by kernel_rfl) (by kernel_rfl)) (by kernel_rfl) (by kernel_rfl)
end Go.Proofs.YtcfopdccdeeleaaGreatDoor.DL
