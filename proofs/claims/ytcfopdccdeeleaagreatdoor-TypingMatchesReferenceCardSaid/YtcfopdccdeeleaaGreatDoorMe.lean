/-
  Own library, part 5: an abstract reading of values and a calculus over it; contracts of functions; plain lemmas.
-/
import Derived.Lib.ItoaLen
import Derived.Handed
import Derived.WideKeyArgs
import Derived.ProofKit
import Derived.OpenShut
import Derived.JoinedCond
import Derived.KernelRfl
import Derived.Test.YtcfopdccdeeleaaGreatDoorMd
set_option linter.unusedVariables false
set_option linter.unusedSimpArgs false
set_option maxRecDepth 100000


open List renaming getElem?_eq_some_iff→qv,getElem?_append_left→qz,mem_map→qE,getElem_mem→qJ,mem_cons→qK,getElem?_set_ne→qL,getElem?_eq_getElem→qX,not_mem_nil→zb,getElem?_set_self→zd,mem_of_getElem?→ze,mem_append→zh,mem_singleton→zj,getElem?_append_right→zl,length_append→zr,mem_cons_of_mem→zt,drop_eq_getElem_cons→zA,mem_cons_self→zG,getElem?_map→zM,append_nil→ye,getElem?_eq_none→yx,length_map→jn,take_length→jC,flatMap_cons→u9,foldl_append→ZU
open Nat renaming le_refl→qB,le_trans→yZ,le_of_ble_eq_true→uE
open Array renaming getD_eq_getD_getElem?→za
open Option renaming map_eq_some_iff→wb
open Int renaming le_refl→Qq
namespace Go.Proofs.YtcfopdccdeeleaaGreatDoor.Q4
open Go Go.Ev Go.Proofs Go.Proofs.YtcfopdccdeeleaaGreatDoor YM YS YF P1 P2 Y1 Y2 Y3 Y4 Y5 Y6 Y9 Q1 Q2 Q3
def Zt (op:Int):Bool:=decide (op=1)||decide (op=15)||decide (op=45)||decide (op=46)||decide (op=47)
def numB (op n:Int):Bool:=if op=2 then decide (1≤n)&&decide (n≤3) else if op=20 then decide (-64≤n)&&decide (n≤64) else decide (n=0)
def ownB (n:Nd):Bool:=if Zt n.op=vC n.name∧(Zt n.op=true∨n.name=⟨#[]⟩) then numB n.op n.n else false
theorem ownU (n:Nd):qt Tryz.prog 79 [eNd n] (aB (ownB n)):=by
 refine qSQ Tryz.call79 Tryz.func79 rfl {} ?_;have hnm:=qeA n.name;generalize hN:vC n.name=N at *
 by_cases hd:n.op=1∨n.op=15∨n.op=45∨n.op=46∨n.op=47
 ·have hnd:Zt n.op=true:=by rcases hd with h | h | h | h | h<;>simp [Zt,h]
  have h2:¬n.op=2:=by omega
  have h20:¬n.op=20:=by omega
  rcases hd with h | h | h | h | h
  all_goals
   simp [go_sem,h];refine qc.pure hnm (.cons (.hf (HF.sc _)) .nil) ?_;cases N with
   |true =>
    have ho:ownB n=decide (n.n=0):=by simp [ownB,hnd,hN,numB,h2,h20]
    rw [ho];simp [go_sem,h];exact .hf _ (HF.sc _)
   |false =>
    have ho:ownB n=false:=by simp [ownB,hnd,hN]
    rw [ho];simp [go_sem,h];exact .hf _ (HF.sc _)
 ·simp only [not_or] at hd
  obtain ⟨d1,d2,d3,d4,d5⟩:=hd;have hnd:Zt n.op=false:=by simp [Zt,d1,d2,d3,d4,d5]
  simp [go_sem,d1,d2,d3,d4,d5];refine qc.pure hnm (.cons (.hf (HF.sc _)) .nil) ?_;cases N with
  |true =>
   have ho:ownB n=false:=by simp [ownB,hnd,hN]
   rw [ho];simp [go_sem,d1,d2,d3,d4,d5];exact .hf _ (HF.sc _)
  |false =>
   by_cases he:n.name=⟨#[]⟩
   ·have ho:ownB n=numB n.op n.n:=by
     unfold ownB;rw [if_pos ⟨by rw [hnd,hN],.inr he⟩]
    rw [ho];unfold numB;by_cases h2:n.op=2
    ·by_cases b1:1≤n.n<;>by_cases b2:n.n≤3<;>(simp [go_sem,h2,he,b1,b2];exact .hf _ (HF.sc _))
    ·by_cases h20:n.op=20
     ·by_cases b1 : -64≤n.n<;>by_cases b2:n.n≤64<;>(simp [go_sem,h2,h20,he,b1,b2];exact .hf _ (HF.sc _))
     ·simp [go_sem,d1,d2,d3,d4,d5,h2,h20,he]
      exact .hf _ (HF.sc _)
   ·have ho:ownB n=false:=by simp [ownB,hnd,he]
    rw [ho];have hie:n.name.toList.isEmpty=false:=by simpa using zL he
    simp [go_sem,d1,d2,d3,d4,d5,he,hie];exact .hf _ (HF.sc _)
mutual
def cntN:Nd→Int→Int
 | .mk _ _ _ ks _,left=>yR ks left 1
def yR:List Nd→Int→Int→Int
 | [],_,sum=>sum
 |k :: ks,left,sum=>if sum≤left then yR ks left (sum+cntN k (left-sum)) else sum
end
theorem kJ (n:Nd) (left:Int):cntN n left=yR n.kids left 1:=by
 obtain ⟨op,nm,i,ks,p⟩:=n;simp [cntN,Nd.kids]
mutual
theorem Ws:∀(n:Nd) (left:Int),1≤cntN n left∧(cntN n left≤left+1∨cntN n left=1)
 | .mk _ _ _ ks _,left=>by
  simp only [cntN];have:=Wt ks left 1;omega
theorem Wt:∀(ks:List Nd) (left sum:Int),sum≤yR ks left sum∧(yR ks left sum≤left+1∨yR ks left sum=sum)
 | [],left,sum=>by simp [yR]
 |k :: ks,left,sum=>by
  simp only [yR];split
  ·have h1:=Ws k (left-sum)
   have h2:=Wt ks left (sum+cntN k (left-sum));omega
  ·omega
end
theorem kK:∀(m:Nat) (n:Nd),szN n≤m→∀ left:Int,-1000000≤left∧left≤1000000→qt Tryz.prog 35 [eNd n,aI left] (aI (cntN n left))
 | 0,n,hm,_,_=>by obtain ⟨op,nm,i,ks,p⟩:=n;simp [szN] at hm
 |m+1,n,hm,left,hl=>by
  have ih:∀ k,k∈n.kids→∀ left:Int,-1000000≤left∧left≤1000000→qt Tryz.prog 35 [eNd k,aI left] (aI (cntN k left)):=fun k hk =>
   kK m k (by have:=yu hk;omega)
  rw [kJ];generalize hR:yR n.kids left 1=R;refine qSQ Tryz.call35 Tryz.func35 rfl {} ?_;simp [go_sem];refine qD.upK n.kids.length (fun k st=>∃ sum:Int,st.tm 1=aI left∧st.tm 2 = .ip (cNd n)∧st.tm 5=aI sum∧st.tm 6=aI k∧(k:Int)+1≤sum∧(sum≤left+1∨sum=1)∧yR (n.kids.drop k) left sum=R) ?_ ?_
  ·exact ⟨1,by simp [go_sem],by simp [go_sem],by simp [go_sem],by simp [go_sem],by omega,by omega,by simpa using hR⟩
  ·rintro k st hk ⟨sum,e1,e2,e5,e6,hs1,hs2,hI⟩
   by_cases hkl:k=n.kids.length
   ·subst hkl
    rw [List.drop_length] at hI;simp only [yR] at hI;subst hI;simp [go_sem,e1,e2,e5,e6];exact .hf _ (HF.sc _)
   ·have hlt:k<n.kids.length:=by omega
    rw [zA hlt] at hI;simp only [yR] at hI;by_cases hc:sum≤left
    ·rw [if_pos hc] at hI
     have w1:IntKind.i64.wrap ((k:Int)+1)=(k:Int)+1:=qy (by omega) (by omega);have w2:IntKind.i64.wrap (left-sum)=left-sum:=qy (by omega) (by omega);have hcl:=Ws n.kids[k] (left-sum);have w3:IntKind.i64.wrap (sum+cntN n.kids[k] (left-sum))=sum+cntN n.kids[k] (left-sum):=qy (by omega) (by omega);simp [go_sem,e1,e2,e5,e6,hlt,hc,w2,qr];refine qc.pure (ih n.kids[k] (qJ hlt) (left-sum) ⟨by omega,by omega⟩) (.cons (.hf (qO _)) (.cons (.hf (HF.sc _)) .nil)) ?_;simp [go_sem,e1,e2,e5,e6,w1,w3];refine ⟨hlt,Keep.mk' ?_⟩;exact ⟨sum+cntN n.kids[k] (left-sum),by simp [go_sem,e1],by simp [go_sem,e2],by simp [go_sem],by simp [go_sem],by omega,by omega,hI⟩
    ·rw [if_neg hc] at hI
     subst hI;simp [go_sem,e1,e2,e5,e6,hlt,hc];exact .hf _ (HF.sc _)
mutual
def forN:Nd→Int→Bool
 | .mk op nm i ks p,lv=>if lv<1 then false else ownB (.mk op nm i ks p)&&(fitB op ks&&ud ks (lv-1))
def ud:List Nd→Int→Bool
 | [],_=>true
 |k :: ks,lv=>forN k lv&&ud ks lv
end
theorem Vk (n:Nd) (lv:Int):forN n lv=if lv<1 then false else ownB n&&(fitB n.op n.kids&&ud n.kids (lv-1)):=by
 obtain ⟨op,nm,i,ks,p⟩:=n;simp [forN,Nd.kids,Nd.op]
theorem kL:∀(m:Nat) (n:Nd),szN n≤m→Small n→∀ lv:Int,-1000000≤lv∧lv≤1000000→qt Tryz.prog 36 [eNd n,aI lv] (aB (forN n lv))
 | 0,n,hm,_,_,_=>by obtain ⟨op,nm,i,ks,p⟩:=n;simp [szN] at hm
 |m+1,n,hm,hs,lv,hl=>by
  have ih:∀ k,k∈n.kids→∀ lv:Int,-1000000≤lv∧lv≤1000000→qt Tryz.prog 36 [eNd k,aI lv] (aB (forN k lv)):=fun k hk =>
   kL m k (by have:=yu hk;omega) (hs.kid hk)
  have hlen:=hs.len;rw [Vk];have how:=ownU n;have hfi:=fitsU n.op n.kids hlen;by_cases hlv:lv<1
  ·rw [if_pos hlv]
   refine qSQ Tryz.call36 Tryz.func36 rfl {} ?_;simp [go_sem,hlv];exact .hf _ (HF.sc _)
  rw [if_neg hlv];cases ho:ownB n with
  |false =>
   rw [ho] at how;refine qSQ Tryz.call36 Tryz.func36 rfl {} ?_;simp [go_sem,hlv];refine qc.pure how (.cons (.hf (qO _)) .nil) ?_;simp [go_sem,hlv];exact .hf _ (HF.sc _)
  |true =>
   rw [ho] at how;cases hf:fitB n.op n.kids with
   |false =>
    rw [hf] at hfi;refine qSQ Tryz.call36 Tryz.func36 rfl {} ?_;simp [go_sem,hlv];refine qc.pure how (.cons (.hf (qO _)) .nil) ?_;simp [go_sem,hlv];refine qc.pure hfi (.cons (.hf (HF.sc _)) (.cons (.hf (Yk _)) .nil)) ?_;simp [go_sem,hlv];exact .hf _ (HF.sc _)
   |true =>
    rw [hf] at hfi;have wl:IntKind.i64.wrap (lv-1)=lv-1:=qy (by omega) (by omega);generalize hR:ud n.kids (lv-1)=R;simp only [Bool.true_and];refine qSQ Tryz.call36 Tryz.func36 rfl {} ?_;simp [go_sem,hlv];refine qc.pure how (.cons (.hf (qO _)) .nil) ?_;simp [go_sem,hlv];refine qc.pure hfi (.cons (.hf (HF.sc _)) (.cons (.hf (Yk _)) .nil)) ?_;simp [go_sem,hlv];refine qD.upK n.kids.length (fun k st=>st.tm 1=aI lv∧st.tm 2 = .ip (cNd n)∧st.tm 5=aI k∧ud (n.kids.drop k) (lv-1)=R) ?_ ?_
    ·exact ⟨by simp [go_sem],by simp [go_sem],by simp [go_sem],by simpa using hR⟩
    ·rintro k st hk ⟨e1,e2,e5,hI⟩
     by_cases hkl:k=n.kids.length
     ·subst hkl
      rw [List.drop_length] at hI;simp only [ud] at hI;subst hI;simp [go_sem,e1,e2,e5];exact .hf _ (HF.sc _)
     ·have hlt:k<n.kids.length:=by omega
      have w1:IntKind.i64.wrap ((k:Int)+1)=(k:Int)+1:=qy (by omega) (by omega);rw [zA hlt] at hI;simp only [ud] at hI;have hi:=ih n.kids[k] (qJ hlt) (lv-1) ⟨by omega,by omega⟩;simp [go_sem,e1,e2,e5,hlt,wl,qr];refine qc.pure hi (.cons (.hf (qO _)) (.cons (.hf (HF.sc _)) .nil)) ?_;cases hq:forN n.kids[k] (lv-1) with
      |true =>
       rw [hq,Bool.true_and] at hI;simp [go_sem,e1,e2,e5,w1];refine ⟨hlt,Keep.mk' ?_⟩;exact ⟨by simp [go_sem,e1],by simp [go_sem,e2],by simp [go_sem],hI⟩
      |false =>
       rw [hq,Bool.false_and] at hI;subst hI;simp [go_sem,e1,e2,e5];exact .hf _ (HF.sc _)
theorem kM:∀(ks:List Nd) (left sum:Int),0≤sum→yR ks left sum≤left→sum+ks.length≤yR ks left sum∧∀ k,k∈ks→∃ l',l'≤left∧cntN k l'≤l'
 | [],left,sum,_,h=>by simp [yR]
 |k :: ks,left,sum,h0,h=>by
  simp only [yR] at h ⊢;split at h
  ·rename_i hc
   rw [if_pos hc];have h1:=Ws k (left-sum);have h2:=kM ks left (sum+cntN k (left-sum)) (by omega) h;have h3:=h2.1;refine ⟨by simp only [List.length_cons];omega,fun q hq=>?_⟩;rcases qK.1 hq with rfl | hq
   ·exact ⟨left-sum,by omega,by omega⟩
   ·exact h2.2 q hq
  ·omega
theorem Wo:∀(m:Nat) (n:Nd) (left:Int),szN n≤m→left≤1000→cntN n left≤left→Small n
 | 0,n,_,hm,_,_=>by obtain ⟨op,nm,i,ks,p⟩:=n;simp [szN] at hm
 |m+1,n,left,hm,hl,h=>by
  rw [kJ] at h;obtain ⟨h1,h2⟩:=kM n.kids left 1 (by omega) h;refine .mk n (by omega) fun k hk=>?_
  obtain ⟨l',hl',hc⟩:=h2 k hk;exact Wo m k l' (by have:=yu hk;omega) (by omega) hc
def yj (n:Nd):Bool:=decide (cntN n 400≤400)&&forN n 24
theorem Wu (n:Nd):qt Tryz.prog 14 [eNd n] (aB (yj n)):=by
 have hc:=kK (szN n) n (qB _) 400 (by omega);by_cases h:cntN n 400≤400
 ·have hs:=Wo (szN n) n 400 (qB _) (by omega) h
  have hf:=kL (szN n) n (qB _) hs 24 (by omega);have hv:yj n=forN n 24:=by simp [yj,h]
  rw [hv];refine qSQ Tryz.call14 Tryz.func14 rfl {} ?_;simp [go_sem];refine qc.pure hc (.cons (.hf (qO _)) (.cons (.hf (HF.sc _)) .nil)) ?_;simp [go_sem,h];refine qc.pure hf (.cons (.hf (qO _)) (.cons (.hf (HF.sc _)) .nil)) ?_;simp [go_sem];exact .hf _ (HF.sc _)
 ·have hv:yj n=false:=by simp [yj,h]
  rw [hv];refine qSQ Tryz.call14 Tryz.func14 rfl {} ?_;simp [go_sem];refine qc.pure hc (.cons (.hf (qO _)) (.cons (.hf (HF.sc _)) .nil)) ?_;simp [go_sem,h];exact .hf _ (HF.sc _)
theorem kN {ks:List Nd} {lv:Int} (h:ud ks lv=true):∀ k,k∈ks→forN k lv=true:=by
 induction ks with
 |nil=>intro k hk;simp at hk
 |cons a l ih =>
  simp only [ud,Bool.and_eq_true] at h;intro k hk;rcases qK.1 hk with rfl | hk
  ·exact h.1
  ·exact ih h.2 k hk
theorem kO:∀(m:Nat) (n:Nd) (lv:Int),szN n≤m→forN n lv=true→WfN n
 | 0,n,_,hm,_=>by obtain ⟨op,nm,i,ks,p⟩:=n;simp [szN] at hm
 |m+1,n,lv,hm,h=>by
  rw [Vk] at h;split at h
  ·exact absurd h (by simp)
  ·simp only [Bool.and_eq_true] at h
   obtain ⟨h1,h2,h3⟩:=h;refine .mk n ?_ (fun ho=>?_) fun k hk=>kO m k (lv-1) (by have:=yu hk;omega) (kN h3 k hk)
   ·simpa [fitB] using h2
   ·unfold ownB at h1
    split at h1
    ·rw [numB,if_pos ho] at h1
     simpa using h1
    ·exact absurd h1 (by simp)
theorem vd {n:Nd} (h:yj n=true):WfN n:=by
 simp only [yj,Bool.and_eq_true] at h;exact kO (szN n) n 24 (qB _) h.2
end Go.Proofs.YtcfopdccdeeleaaGreatDoor.Q4


namespace Go.Proofs.YtcfopdccdeeleaaGreatDoor.Q5
open Go Go.Ev Go.Proofs Go.Proofs.YtcfopdccdeeleaaGreatDoor YM YS YF P1 P2 Y1 Y2 Y3 Y4 Y5 Y6 Y9 Y16 Q1 Q2 Q3 Q4
theorem kP (a b:List Int) (ha:a.length≤1000000):qt Tryz.prog 65 [lI a,lI b] (aB (decide (a=b))):=by
 refine qSQ Tryz.call65 Tryz.func65 rfl {} ?_;by_cases hn:a.length=b.length
 case neg =>
  rw [decide_eq_false (by rintro rfl;exact hn rfl)];simp [go_sem,hn];exact .hf _ (HF.sc _)
 simp [go_sem,hn];refine qD.upK a.length (fun k st=>st.tm 0=lI a∧st.tm 1=lI b∧st.tm 5=aI k∧∀(i:Nat) (h:i<a.length) (h':i<b.length),i<k→a[i]=b[i]) ?_ ?_
 ·exact ⟨by simp [go_sem],by simp [go_sem],by simp [go_sem],fun i h h' hi=>absurd hi (by omega)⟩
 ·rintro k st hk ⟨e0,e1,e5,he⟩
  by_cases hkl:k=a.length
  ·rw [decide_eq_true (List.ext_getElem hn fun i h h'=>he i h h' (by omega))]
   have hkb:k=b.length:=by omega
   simp [go_sem,e0,e1,e5,hkb,hn];exact .hf _ (HF.sc _)
  ·have hlt:k<a.length:=by omega
   have hlb:k<b.length:=by omega
   have w1:IntKind.i64.wrap ((k:Int)+1)=(k:Int)+1:=qy (by omega) (by omega);have hltb:(k:Int)<(b.length:Int):=by omega
   by_cases hq:a[k]=b[k]
   ·simp [go_sem,e0,e1,e5,hlt,hlb,hn,hltb]
    try refine qx.intro (by kernel_rfl) ?_
    simp [go_sem,e0,e1,e5,hlt,hlb,hn,hltb,hq,w1]
    try refine ⟨by omega,Keep.mk' ?_⟩
    try refine Keep.mk' ?_
    refine ⟨by simp [go_sem,e0],by simp [go_sem,e1],by simp [go_sem],fun i h h' hi=>?_⟩;by_cases hik:i=k
    ·subst hik;exact hq
    ·exact he i h h' (by omega)
   ·rw [decide_eq_false (fun e=>hq (by simp [e]))]
    simp [go_sem,e0,e1,e5,hlt,hlb,hn,hltb]
    try refine qx.intro (by kernel_rfl) ?_
    simp [go_sem,e0,e1,e5,hlt,hlb,hn,hltb,hq];exact .hf _ (HF.sc _)
theorem kQ (a b:List (List Int)) (ha:a.length≤1000000) (hx:∀ x,x∈a→x.length≤1000000):qt Tryz.prog 22 [lL a,lL b] (aB (decide (a=b))):=by
 refine qSQ Tryz.call22 Tryz.func22 rfl {} ?_;by_cases hn:a.length=b.length
 case neg =>
  rw [decide_eq_false (by rintro rfl;exact hn rfl)];simp [go_sem,hn];exact .hf _ (HF.sc _)
 simp [go_sem,hn];refine qD.upK a.length (fun k st=>st.tm 0=lL a∧st.tm 1=lL b∧st.tm 5=aI k∧∀(i:Nat) (h:i<a.length) (h':i<b.length),i<k→a[i]=b[i]) ?_ ?_
 ·exact ⟨by simp [go_sem],by simp [go_sem],by simp [go_sem],fun i h h' hi=>absurd hi (by omega)⟩
 ·rintro k st hk ⟨e0,e1,e5,he⟩
  by_cases hkl:k=a.length
  ·rw [decide_eq_true (List.ext_getElem hn fun i h h'=>he i h h' (by omega))]
   have hkb:k=b.length:=by omega
   simp [go_sem,e0,e1,e5,hkb,hn];exact .hf _ (HF.sc _)
  ·have hlt:k<a.length:=by omega
   have hlb:k<b.length:=by omega
   have w1:IntKind.i64.wrap ((k:Int)+1)=(k:Int)+1:=qy (by omega) (by omega);have hltb:(k:Int)<(b.length:Int):=by omega
   simp [go_sem,e0,e1,e5,hlt,hlb,hn,hltb]
   try refine qx.intro (by kernel_rfl) ?_
   try simp [go_sem,e0,e1,e5,hlt,hlb,hn,hltb]
   refine qc.pure (kP a[k] b[k] (hx _ (qJ hlt))) (.cons (.hf (j9 _)) (.cons (.hf (j9 _)) .nil)) ?_;by_cases hq:a[k]=b[k]
   ·simp [go_sem,e0,e1,e5,hlt,hlb,hn,hltb,hq,w1]
    try refine ⟨by omega,Keep.mk' ?_⟩
    try refine Keep.mk' ?_
    refine ⟨by simp [go_sem,e0],by simp [go_sem,e1],by simp [go_sem],fun i h h' hi=>?_⟩;by_cases hik:i=k
    ·subst hik;exact hq
    ·exact he i h h' (by omega)
   ·rw [decide_eq_false (fun e:a=b=>hq (by simp [e]))]
    simp [go_sem,e0,e1,e5,hlt,hlb,hn,hltb,hq];exact .hf _ (HF.sc _)
mutual
def eqN:Nd→Nd→Bool
 | .mk op nm i ks p,.mk op' nm' i' ks' p'=>decide (op=op')&&decide (nm=nm')&&decide (i=i')&&decide (p=p')&&eqNs ks ks'
def eqNs:List Nd→List Nd→Bool
 | [],[]=>true
 |k :: ks,k' :: ks'=>eqN k k'&&eqNs ks ks'
 |_,_=>false
end
theorem kR (a b:Nd):eqN a b=(decide (a.op=b.op)&&decide (a.name=b.name)&&decide (a.n=b.n)&&decide (a.pos=b.pos)&&eqNs a.kids b.kids):=by
 obtain ⟨op,nm,i,ks,p⟩:=a;obtain ⟨op',nm',i',ks',p'⟩:=b;simp only [eqN];rfl
theorem qeB {a b:List Nd} (h:eqNs a b=true):a.length=b.length:=by
 induction a generalizing b with
 |nil=>cases b with
  |nil=>rfl
  |cons=>simp [eqNs] at h
 |cons x a ih=>cases b with
  |nil=>simp [eqNs] at h
  |cons y b =>
   simp only [eqNs,Bool.and_eq_true] at h;simp [ih h.2]
theorem Wv:∀(m:Nat) (a b:Nd),szN a≤m→Small a→qt Tryz.prog 25 [eNd a,eNd b,aB true] (aB (eqN a b))
 | 0,a,b,hm,_=>by obtain ⟨op,nm,i,ks,p⟩:=a;simp [szN] at hm
 |m+1,a,b,hm,hs=>by
  have ih:∀ k,k∈a.kids→∀ b,qt Tryz.prog 25 [eNd k,eNd b,aB true] (aB (eqN k b)):=fun k hk b =>
   Wv m k b (by have:=yu hk;omega) (hs.kid hk)
  have hlen:=hs.len;rw [kR];refine qSQ Tryz.call25 Tryz.func25 rfl {} ?_;by_cases h1:a.op=b.op
  case neg =>
   simp [go_sem,h1];exact .hf _ (HF.sc _)
  by_cases h2:a.name=b.name
  case neg =>
   simp [go_sem,h1,h2,zL h2];exact .hf _ (HF.sc _)
  by_cases h3:a.n=b.n
  case neg =>
   simp [go_sem,h1,h2,h3];exact .hf _ (HF.sc _)
  by_cases h4:a.pos=b.pos
  case neg =>
   simp [go_sem,h1,h2,h3,h4];exact .hf _ (HF.sc _)
  by_cases h5:a.kids.length=b.kids.length
  case neg =>
   have:eqNs a.kids b.kids=false:=by
    cases h:eqNs a.kids b.kids with
    |false=>rfl
    |true=>exact absurd (qeB h) h5
   simp [go_sem,h1,h2,h3,h4,h5,this];exact .hf _ (HF.sc _)
  generalize hR:eqNs a.kids b.kids=R;simp [go_sem,h1,h2,h3,h4,h5];refine qD.upK a.kids.length (fun k st=>st.tm 2=aB true∧st.tm 3 = .ip (cNd a)∧st.tm 4 = .ip (cNd b)∧st.tm 7=aI k∧eqNs (a.kids.drop k) (b.kids.drop k)=R) ?_ ?_
  ·refine ⟨by simp [go_sem],by simp [go_sem],by simp [go_sem],by simp [go_sem],by simpa using hR⟩
  ·rintro k st hk ⟨e2,e3,e4,e7,hI⟩
   by_cases hkl:k=a.kids.length
   ·rw [hkl,List.drop_length,h5,List.drop_length] at hI
    simp only [eqNs] at hI;subst hI;have hkb:k=b.kids.length:=by omega
    simp [go_sem,e2,e3,e4,e7,hkb,h5];exact .hf _ (HF.sc _)
   ·have hlt:k<a.kids.length:=by omega
    have hlb:k<b.kids.length:=by omega
    have w1:IntKind.i64.wrap ((k:Int)+1)=(k:Int)+1:=qy (by omega) (by omega);have hltb:(k:Int)<(b.kids.length:Int):=by omega
    rw [zA hlt,zA hlb] at hI;simp only [eqNs] at hI;have hi:=ih a.kids[k] (qJ hlt) b.kids[k];simp [go_sem,e2,e3,e4,e7,hlt,hlb,h5,hltb,qr];refine qx.intro (by kernel_rfl) ?_;simp [go_sem,e2,e3,e4,e7,hlt,hlb,h5,hltb,qr];refine qc.pure hi (.cons (.hf (qO _)) (.cons (.hf (qO _)) (.cons (.hf (HF.sc _)) .nil))) ?_;cases hq:eqN a.kids[k] b.kids[k] with
    |true =>
     rw [hq,Bool.true_and] at hI;simp [go_sem,e2,e3,e4,e7,w1]
     try refine ⟨by omega,Keep.mk' ?_⟩
     try refine Keep.mk' ?_
     exact ⟨by simp [go_sem,e2],by simp [go_sem,e3],by simp [go_sem,e4],by simp [go_sem],hI⟩
    |false =>
     rw [hq,Bool.false_and] at hI;subst hI;simp [go_sem,e2,e3,e4,e7];exact .hf _ (HF.sc _)
end Go.Proofs.YtcfopdccdeeleaaGreatDoor.Q5


namespace Go.Proofs.YtcfopdccdeeleaaGreatDoor.Q6
open Go Go.Ev Go.Proofs Go.Proofs.YtcfopdccdeeleaaGreatDoor YM YS YF P1 P2 Y1 Y2 Y3 Y4 Y5 Y6 Y9 Y16 Q1 Q2 Q3 Q4 Q5
mutual
def anyN (p:Nd→Bool):Nd→Bool
 | .mk op nm i ks q=>p (.mk op nm i ks q)||vD p ks
def vD (p:Nd→Bool):List Nd→Bool
 | []=>false
 |k :: ks=>anyN p k||vD p ks
end
theorem Ww (p:Nd→Bool) (n:Nd):anyN p n=(p n||vD p n.kids):=by
 obtain ⟨op,nm,i,ks,q⟩:=n;simp [anyN,Nd.kids]
theorem usesU (nm:ByteArray):∀(m:Nat) (n:Nd),szN n≤m→Small n→qt Tryz.prog 29 [eNd n,aS nm] (aB (anyN (fun n=>decide (n.name=nm)) n))
 | 0,n,hm,_=>by obtain ⟨op,nm,i,ks,p⟩:=n;simp [szN] at hm
 |m+1,n,hm,hs=>by
  have ih:∀ k,k∈n.kids→qt Tryz.prog 29 [eNd k,aS nm] (aB (anyN (fun n=>decide (n.name=nm)) k)):=fun k hk =>
   usesU nm m k (by have:=yu hk;omega) (hs.kid hk)
  have hlen:=hs.len;rw [Ww];generalize hR:vD (fun n=>decide (n.name=nm)) n.kids=R;refine qSQ Tryz.call29 Tryz.func29 rfl {} ?_;by_cases h1:n.name=nm
  ·simp [go_sem,h1]
   exact .hf _ (HF.sc _)
  ·rw [decide_eq_false h1,Bool.false_or]
   simp [go_sem,h1,zL h1];refine qD.upK n.kids.length (fun k st=>st.tm 1=aS nm∧st.tm 2 = .ip (cNd n)∧st.tm 5=aI k∧vD (fun n=>decide (n.name=nm)) (n.kids.drop k)=R) ?_ ?_
   ·exact ⟨by simp [go_sem],by simp [go_sem],by simp [go_sem],by simpa using hR⟩
   ·rintro k st hk ⟨e1,en,ei,hI⟩
    by_cases hkl:k=n.kids.length
    ·subst hkl
     rw [List.drop_length] at hI;simp only [vD] at hI;subst hI;simp [go_sem,e1,en,ei];exact .hf _ (HF.sc _)
    ·have hlt:k<n.kids.length:=by omega
     have w1:IntKind.i64.wrap ((k:Int)+1)=(k:Int)+1:=qy (by omega) (by omega);rw [zA hlt] at hI;simp only [vD] at hI;have hi:=ih n.kids[k] (qJ hlt);simp [go_sem,e1,en,ei,hlt,qr]
     try refine qx.intro (by kernel_rfl) ?_
     try simp [go_sem,e1,en,ei,hlt,qr]
     refine qc.pure hi (.cons (.hf (qO _)) (.cons (.hf (HF.sc _)) .nil)) ?_;cases hq:anyN (fun n=>decide (n.name=nm)) n.kids[k] with
     |true =>
      rw [hq,Bool.true_or] at hI;subst hI;simp [go_sem,e1,en,ei];exact .hf _ (HF.sc _)
     |false =>
      rw [hq,Bool.false_or] at hI;simp [go_sem,e1,en,ei,w1]
      try refine ⟨hlt,Keep.mk' ?_⟩
      try refine Keep.mk' ?_
      exact ⟨by simp [go_sem,e1],by simp [go_sem,en],by simp [go_sem],hI⟩
theorem kS:∀(m:Nat) (n:Nd),szN n≤m→Small n→qt Tryz.prog 31 [eNd n] (aB (anyN (fun n=>decide (n.op=47)) n))
 | 0,n,hm,_=>by obtain ⟨op,nm,i,ks,p⟩:=n;simp [szN] at hm
 |m+1,n,hm,hs=>by
  have ih:∀ k,k∈n.kids→qt Tryz.prog 31 [eNd k] (aB (anyN (fun n=>decide (n.op=47)) k)):=fun k hk =>
   kS m k (by have:=yu hk;omega) (hs.kid hk)
  have hlen:=hs.len;rw [Ww];generalize hR:vD (fun n=>decide (n.op=47)) n.kids=R;refine qSQ Tryz.call31 Tryz.func31 rfl {} ?_;by_cases h1:n.op=47
  ·simp [go_sem,h1]
   exact .hf _ (HF.sc _)
  ·rw [decide_eq_false h1,Bool.false_or]
   simp [go_sem,h1];refine qD.upK n.kids.length (fun k st=>st.tm 1 = .ip (cNd n)∧st.tm 3=aI k∧vD (fun n=>decide (n.op=47)) (n.kids.drop k)=R) ?_ ?_
   ·exact ⟨by simp [go_sem],by simp [go_sem],by simpa using hR⟩
   ·rintro k st hk ⟨en,ei,hI⟩
    by_cases hkl:k=n.kids.length
    ·subst hkl
     rw [List.drop_length] at hI;simp only [vD] at hI;subst hI;simp [go_sem,en,ei];exact .hf _ (HF.sc _)
    ·have hlt:k<n.kids.length:=by omega
     have w1:IntKind.i64.wrap ((k:Int)+1)=(k:Int)+1:=qy (by omega) (by omega);rw [zA hlt] at hI;simp only [vD] at hI;have hi:=ih n.kids[k] (qJ hlt);simp [go_sem,en,ei,hlt,qr]
     try refine qx.intro (by kernel_rfl) ?_
     try simp [go_sem,en,ei,hlt,qr]
     refine qc.pure hi (.cons (.hf (qO _)) .nil) ?_;cases hq:anyN (fun n=>decide (n.op=47)) n.kids[k] with
     |true =>
      rw [hq,Bool.true_or] at hI;subst hI;simp [go_sem,en,ei];exact .hf _ (HF.sc _)
     |false =>
      rw [hq,Bool.false_or] at hI;simp [go_sem,en,ei,w1]
      try refine ⟨hlt,Keep.mk' ?_⟩
      try refine Keep.mk' ?_
      exact ⟨by simp [go_sem,en],by simp [go_sem],hI⟩
end Go.Proofs.YtcfopdccdeeleaaGreatDoor.Q6


namespace Go.Proofs.YtcfopdccdeeleaaGreatDoor.Q7
open Go Go.Ev Go.Proofs Go.Proofs.YtcfopdccdeeleaaGreatDoor YM YS YF P1 P2 Y1 Y2 Y3 Y4 Y5 Y6 Y9 Y16 Q1 Q2 Q3 Q4 Q5 Q6
def parB (ns:Nat) (l:List (ByteArray×Int)):Bool:=decide (l.length≤8)&&l.all fun p=>decide (0≤p.2)&&decide (p.2<ns)
theorem kT (ts:TS) (l:List (ByteArray×Int)):qt Tryz.prog 13 [eTS ts,lPm l] (aB (parB ts.sorts.length l)):=by
 refine qSQ Tryz.call13 Tryz.func13 rfl {} ?_;by_cases h8:l.length≤8
 case neg =>
  have hp:parB ts.sorts.length l=false:=by simp [parB,h8]
  have h8':(8:Int)<l.length:=by omega
  rw [hp];simp [go_sem,h8,h8'];exact .hf _ (HF.sc _)
 have h8':¬(8:Int)<l.length:=by omega
 simp [go_sem,h8,h8'];refine qD.upK l.length (fun k st=>st.tm 1=lPm l∧st.tm 2 = .ip (cTS ts)∧st.tm 5=aI k∧∀ j p,j<k→l[j]?=some p→0≤p.2∧p.2<ts.sorts.length) ?_ ?_
 ·exact ⟨by simp [go_sem],by simp [go_sem],by simp [go_sem],fun j p hj=>absurd hj (by omega)⟩
 ·rintro k st hk ⟨e1,e3,e5,hI⟩
  by_cases hkl:k=l.length
  ·have hp:parB ts.sorts.length l=true:=by
    simp only [parB,Bool.and_eq_true,decide_eq_true_eq,List.all_eq_true];refine ⟨h8,fun p hp=>?_⟩;obtain ⟨j,hj⟩:=List.mem_iff_getElem?.1 hp;exact hI j p (by have:=(qv.1 hj).1;omega) hj
   rw [hp];simp [go_sem,e1,e3,e5,hkl];exact .hf _ (HF.sc _)
  ·have hlt:k<l.length:=by omega
   have w1:IntKind.i64.wrap ((k:Int)+1)=(k:Int)+1:=qy (by omega) (by omega);have hg:l[k]?=some l[k]:=qX hlt;by_cases hq:0≤l[k].2∧l[k].2<ts.sorts.length
   ·have q1:¬l[k].2<0:=by omega
    have q2:¬(ts.sorts.length:Int)≤l[k].2:=by omega
    simp [go_sem,e1,e3,e5,hlt];refine qx.intro (by kernel_rfl) ?_;simp [go_sem,e1,e3,e5,hlt,q1,q2,w1]
    try refine ⟨hlt,Keep.mk' ?_⟩
    try refine Keep.mk' ?_
    refine ⟨by simp [go_sem,e1],by simp [go_sem,e3],by simp [go_sem],fun j p hj hp=>?_⟩;by_cases hjk:j=k
    ·subst hjk;rw [hg] at hp;cases hp;exact hq
    ·exact hI j p (by omega) hp
   ·have hp:parB ts.sorts.length l=false:=by
     rw [parB,Bool.and_eq_false_iff];refine .inr (List.all_eq_false.2 ⟨l[k],qJ hlt,?_⟩);simp only [Bool.and_eq_true,decide_eq_true_eq];exact hq
    rw [hp];by_cases q1:l[k].2<0
    ·simp [go_sem,e1,e3,e5,hlt]
     refine qx.intro (by kernel_rfl) ?_;simp [go_sem,e1,e3,e5,hlt,q1];exact .hf _ (HF.sc _)
    ·have q2:(ts.sorts.length:Int)≤l[k].2:=by omega
     simp [go_sem,e1,e3,e5,hlt];refine qx.intro (by kernel_rfl) ?_;simp [go_sem,e1,e3,e5,hlt,q1,q2];exact .hf _ (HF.sc _)
theorem Vl {ns:Nat} {l:List (ByteArray×Int)} (h:parB ns l=true):l.length≤8∧∀ p,p∈l→0≤p.2∧p.2<ns:=by
 simp only [parB,Bool.and_eq_true,decide_eq_true_eq,List.all_eq_true] at h;exact ⟨h.1,fun p hp=>h.2 p hp⟩
end Go.Proofs.YtcfopdccdeeleaaGreatDoor.Q7


namespace Go.Proofs.YtcfopdccdeeleaaGreatDoor.Q8
open Go Go.Ev Go.Proofs Go.Proofs.YtcfopdccdeeleaaGreatDoor YM YS YF P1 P2 Y1 Y2 Y3 Y4 Y5 Y6 Y9 Y16 Q1 Q2 Q3 Q4 Q5 Q6 Q7
def limB (ts:TS):Bool:=decide (ts.sorts.length≤4)&&decide (ts.fields.length≤6)&&decide (ts.preds.length≤8)&&decide (ts.facts.length≤16)
def fldB (ns:Nat) (f:Fld):Bool:=decide (1≤f.sorts.length)&&decide (f.sorts.length≤3)&&f.sorts.all fun x=>decide (0≤x)&&decide (x<ns)
def yC (ts:TS):Bool:=limB ts&&(ts.fields.all (fldB ts.sorts.length)&&(ts.preds.all (fun p=>parB ts.sorts.length p.params&&yj p.body)&&ts.facts.all fun f=>yj f.2))
theorem qeC (ts:TS):qt Tryz.prog 12 [eTS ts] (aB (yC ts)):=by
 refine qSQ Tryz.call12 Tryz.func12 rfl {} ?_;by_cases h1:ts.sorts.length≤4
 case neg =>
  have hf:yC ts=false:=by simp [yC,limB,h1]
  have h1':(4:Int)<ts.sorts.length:=by omega
  rw [hf];simp [go_sem,h1'];exact .hf _ (HF.sc _)
 have h1':¬(4:Int)<ts.sorts.length:=by omega
 by_cases h2:ts.fields.length≤6
 case neg =>
  have hf:yC ts=false:=by simp [yC,limB,h2]
  have h2':(6:Int)<ts.fields.length:=by omega
  rw [hf];simp [go_sem,h1',h2'];exact .hf _ (HF.sc _)
 have h2':¬(6:Int)<ts.fields.length:=by omega
 by_cases h3:ts.preds.length≤8
 case neg =>
  have hf:yC ts=false:=by simp [yC,limB,h3]
  have h3':(8:Int)<ts.preds.length:=by omega
  rw [hf];simp [go_sem,h1',h2',h3'];exact .hf _ (HF.sc _)
 have h3':¬(8:Int)<ts.preds.length:=by omega
 by_cases h4:ts.facts.length≤16
 case neg =>
  have hf:yC ts=false:=by simp [yC,limB,h4]
  have h4':(16:Int)<ts.facts.length:=by omega
  rw [hf];simp [go_sem,h1',h2',h3',h4'];exact .hf _ (HF.sc _)
 have h4':¬(16:Int)<ts.facts.length:=by omega
 simp [go_sem,h1',h2',h3',h4'];have hlim:limB ts=true:=by simp [limB,h1,h2,h3,h4]
 generalize hns:ts.sorts.length=ns at *
 refine qD.upK ts.fields.length (fun k st=>st.tm 1 = .ip (cTS ts)∧st.tm 3=aI k∧∀ j f,j<k→ts.fields[j]?=some f→fldB ns f=true) ?_ ?_
 ·exact ⟨by simp [go_sem],by simp [go_sem],fun j p hj=>absurd hj (by omega)⟩
 ·rintro k st hk ⟨e1,e3,hI⟩
  by_cases hkl:k=ts.fields.length
  ·have hfa:ts.fields.all (fldB ns)=true:=by
    rw [List.all_eq_true];intro f hf;obtain ⟨j,hj⟩:=List.mem_iff_getElem?.1 hf;exact hI j f (by have:=(qv.1 hj).1;omega) hj
   simp [go_sem,e1,e3,hkl];refine qD.upK ts.preds.length (fun k st=>st.tm 1 = .ip (cTS ts)∧st.tm 6=aI k∧∀ j p,j<k→ts.preds[j]?=some p→(parB ns p.params&&yj p.body)=true) ?_ ?_
   ·exact ⟨by simp [go_sem,e1],by simp [go_sem],fun j p hj=>absurd hj (by omega)⟩
   ·clear e1 e3 hI hkl hk k st
    rintro k st hk ⟨e1,e6,hI⟩;by_cases hkl:k=ts.preds.length
    ·have hpa:(ts.preds.all fun p=>parB ns p.params&&yj p.body)=true:=by
      rw [List.all_eq_true];intro f hf;obtain ⟨j,hj⟩:=List.mem_iff_getElem?.1 hf;exact hI j f (by have:=(qv.1 hj).1;omega) hj
     simp [go_sem,e1,e6,hkl];refine qD.upK ts.facts.length (fun k st=>st.tm 1 = .ip (cTS ts)∧st.tm 7=aI k∧∀ j f,j<k→ts.facts[j]?=some f→yj f.2=true) ?_ ?_
     ·exact ⟨by simp [go_sem,e1],by simp [go_sem],fun j p hj=>absurd hj (by omega)⟩
     ·clear e1 e6 hI hkl hk k st
      rintro k st hk ⟨e1,e7,hI⟩;by_cases hkl:k=ts.facts.length
      ·have hfa2:(ts.facts.all fun f=>yj f.2)=true:=by
        rw [List.all_eq_true];intro f hf;obtain ⟨j,hj⟩:=List.mem_iff_getElem?.1 hf;exact hI j f (by have:=(qv.1 hj).1;omega) hj
       have hok:yC ts=true:=by
        unfold yC;rw [hns,hlim,hfa,hpa,hfa2];rfl
       rw [hok];simp [go_sem,e1,e7,hkl];exact .hf _ (HF.sc _)
      ·have hlt:k<ts.facts.length:=by omega
       have w1:IntKind.i64.wrap ((k:Int)+1)=(k:Int)+1:=qy (by omega) (by omega);have hg:ts.facts[k]?=some ts.facts[k]:=qX hlt;have hval:=Wu ts.facts[k].2;simp [go_sem,e1,e7,hlt]
       try refine qx.intro (by kernel_rfl) ?_
       try simp [go_sem,e1,e7,hlt]
       refine qc.pure hval (.cons (.hf (qO _)) .nil) ?_;cases hq2:yj ts.facts[k].2 with
       |false =>
        have hb:yC ts=false:=by
         have:(ts.facts.all fun f=>yj f.2)=false:=List.all_eq_false.2 ⟨_,qJ hlt,by simp [hq2]⟩;simp [yC,this]
        rw [hb];simp [go_sem,e1,e7,hlt];exact .hf _ (HF.sc _)
       |true =>
        simp [go_sem,e1,e7,hlt,w1]
        try refine ⟨hlt,Keep.mk' ?_⟩
        try refine Keep.mk' ?_
        refine ⟨by simp [go_sem,e1],by simp [go_sem],fun i f hi hf=>?_⟩;by_cases hik:i=k
        ·subst hik;rw [hg] at hf;cases hf;exact hq2
        ·exact hI i f (by omega) hf
    ·have hlt:k<ts.preds.length:=by omega
     have w1:IntKind.i64.wrap ((k:Int)+1)=(k:Int)+1:=qy (by omega) (by omega);have hg:ts.preds[k]?=some ts.preds[k]:=qX hlt;have hbad:(parB ns ts.preds[k].params&&yj ts.preds[k].body)=false→yC ts=false:=fun hb=>by
      have:(ts.preds.all fun p=>parB ns p.params&&yj p.body)=false:=List.all_eq_false.2 ⟨_,qJ hlt,by simp [hb]⟩;simp [yC,hns,this]
     have hpar:=kT ts ts.preds[k].params;rw [hns] at hpar;have hval:=Wu ts.preds[k].body;have hwp:WKs [eTS ts,lPm ts.preds[k].params] [eTS ts,lPm ts.preds[k].params] := .cons (.hf (zq ts)) (.cons (.hf (jJ _)) .nil);simp [go_sem,e1,e6,hlt];refine qx.intro (by kernel_rfl) ?_;simp [go_sem,e1,e6,hlt];refine qc.pure hpar hwp ?_;cases hq1:parB ns ts.preds[k].params with
     |false =>
      rw [hbad (by rw [hq1];rfl)];simp [go_sem,e1,e6,hlt];exact .hf _ (HF.sc _)
     |true =>
      simp [go_sem,e1,e6,hlt];refine qc.pure hval (.cons (.hf (qO _)) .nil) ?_;cases hq2:yj ts.preds[k].body with
      |false =>
       rw [hbad (by rw [hq1,hq2];rfl)];simp [go_sem,e1,e6,hlt];exact .hf _ (HF.sc _)
      |true =>
       simp [go_sem,e1,e6,hlt,w1]
       try refine ⟨hlt,Keep.mk' ?_⟩
       try refine Keep.mk' ?_
       refine ⟨by simp [go_sem,e1],by simp [go_sem],fun i f hi hf=>?_⟩;by_cases hik:i=k
       ·subst hik;rw [hg] at hf;cases hf;rw [hq1,hq2];rfl
       ·exact hI i f (by omega) hf
  ·have hlt:k<ts.fields.length:=by omega
   have hg:ts.fields[k]?=some ts.fields[k]:=qX hlt;have hbad:fldB ns ts.fields[k]=false→yC ts=false:=fun hb=>by
    have:ts.fields.all (fldB ns)=false:=List.all_eq_false.2 ⟨_,qJ hlt,by simp [hb]⟩;simp [yC,hns,this]
   by_cases c1:1≤ts.fields[k].sorts.length
   case neg =>
    rw [hbad (by simp [fldB,c1])];have c1':(ts.fields[k].sorts.length:Int)<1:=by omega
    simp [go_sem,e1,e3,hlt,c1'];exact .hf _ (HF.sc _)
   have c1':¬(ts.fields[k].sorts.length:Int)<1:=by omega
   by_cases c3:ts.fields[k].sorts.length≤3
   case neg =>
    rw [hbad (by simp [fldB,c3])];have c3':(3:Int)<ts.fields[k].sorts.length:=by omega
    simp [go_sem,e1,e3,hlt,c1',c3'];exact .hf _ (HF.sc _)
   have c3':¬(3:Int)<ts.fields[k].sorts.length:=by omega
   simp [go_sem,e1,e3,hlt,c1',c3'];refine qD.upK ts.fields[k].sorts.length (fun j s=>s.tm 1 = .ip (cTS ts)∧s.tm 3=aI k∧s.tm 4=lI ts.fields[k].sorts∧s.tm 5=aI j∧∀ i x,i<j→ts.fields[k].sorts[i]?=some x→0≤x∧x<ns) ?_ ?_
   ·exact ⟨by simp [go_sem,e1],by simp [go_sem,e3],by simp [go_sem],by simp [go_sem],fun i x hi=>absurd hi (by omega)⟩
   ·rintro j s hj ⟨f1,f3,f4,f5,hJ⟩
    generalize hl:ts.fields[k].sorts=l at *
    by_cases hjl:j=l.length
    ·have w1:IntKind.i64.wrap ((k:Int)+1)=(k:Int)+1:=qy (by omega) (by omega)
     have hgood:fldB ns ts.fields[k]=true:=by
      simp only [fldB,hl,Bool.and_eq_true,decide_eq_true_eq,List.all_eq_true];refine ⟨⟨c1,c3⟩,fun x hx=>?_⟩;obtain ⟨i,hi⟩:=List.mem_iff_getElem?.1 hx;exact hJ i x (by have:=(qv.1 hi).1;omega) hi
     simp [go_sem,f1,f3,f4,f5,hjl,w1]
     try refine ⟨hlt,Keep.mk' ?_⟩
     try refine Keep.mk' ?_
     refine ⟨by simp [go_sem,f1],by simp [go_sem],fun i f hi hf=>?_⟩;by_cases hik:i=k
     ·subst hik;rw [hg] at hf;cases hf;exact hgood
     ·exact hI i f (by omega) hf
    ·have hlj:j<l.length:=by omega
     have w1:IntKind.i64.wrap ((j:Int)+1)=(j:Int)+1:=qy (by omega) (by omega);have hgj:l[j]?=some l[j]:=qX hlj;by_cases hq:0≤l[j]∧l[j]<ns
     ·have q1:¬l[j]<0:=by omega
      have q2:¬(ns:Int)≤l[j]:=by omega
      simp [go_sem,f1,f3,f4,f5,hlj];refine qx.intro (by kernel_rfl) ?_;simp [go_sem,f1,f3,f4,f5,hlj,q1,q2,w1,hns]
      try refine ⟨hlj,Keep.mk' ?_⟩
      try refine Keep.mk' ?_
      refine ⟨by simp [go_sem,f1],by simp [go_sem,f3],by simp [go_sem,f4],by simp [go_sem],fun i x hi hx=>?_⟩;by_cases hij:i=j
      ·subst hij;rw [hgj] at hx;cases hx;exact hq
      ·exact hJ i x (by omega) hx
     ·rw [hbad (by
       rw [fldB,hl,Bool.and_eq_false_iff];refine .inr (List.all_eq_false.2 ⟨l[j],qJ hlj,?_⟩);simp only [Bool.and_eq_true,decide_eq_true_eq];exact hq)]
      by_cases q1:l[j]<0
      ·simp [go_sem,f1,f3,f4,f5,hlj]
       refine qx.intro (by kernel_rfl) ?_;simp [go_sem,f1,f3,f4,f5,hlj,q1];exact .hf _ (HF.sc _)
      ·have q2:(ns:Int)≤l[j]:=by omega
       simp [go_sem,f1,f3,f4,f5,hlj];refine qx.intro (by kernel_rfl) ?_;simp [go_sem,f1,f3,f4,f5,hlj,q1,q2,hns];exact .hf _ (HF.sc _)
theorem Wx {ts:TS} (h:yC ts=true) (hs:∀ x,x∈ts.sorts→x.1.size≤4611686018427387904):okTS ts∧(∀ p,p∈ts.preds→WfN p.body)∧∀ f,f∈ts.facts→WfN f.2:=by
 simp only [yC,limB,fldB,Bool.and_eq_true,decide_eq_true_eq,List.all_eq_true] at h;obtain ⟨⟨⟨⟨h1,h2⟩,h3⟩,h4⟩,hf,hp,ha⟩:=h;refine ⟨⟨h1,h2,h3,h4,hs,fun f hm=>?_,fun p hm=>?_⟩,fun p hm=>vd (hp p hm).2,fun f hm=>vd (ha f hm)⟩
 ·obtain ⟨⟨a,b⟩,c⟩:=hf f hm
  exact ⟨a,b,fun x hx=>c x hx⟩
 ·exact Vl (hp p hm).1
end Go.Proofs.YtcfopdccdeeleaaGreatDoor.Q8


namespace Go.Proofs.YtcfopdccdeeleaaGreatDoor.Q9
open Go Go.Ev Go.Proofs Go.Proofs.YtcfopdccdeeleaaGreatDoor YM YS YF P1 P2 Y1 Y2 Y3 Y4 Y5 Y6 Y9 Y16 Q1 Q2 Q3 Q4 Q5 Q6 Q7 Q8
def ndOp (op:Int) (ks:List Nd):Nd := .mk op ⟨#[]⟩ 0 ks 0
theorem vS (op:Int) (ks:List Nd):qt Tryz.prog 26 [aI op,lNd ks] (eNd (ndOp op ks)):=by
 refine qSQ Tryz.call26 Tryz.func26 rfl {} ?_;have hq:cNd (ndOp op ks)=[aI op,aS ⟨#[]⟩,aI 0,lNd ks,aI 0]:=by rw [yk];rfl
 rw [eNd,hq];simp [go_sem];exact .hf _ (HF.agg fun c hc=>by
  simp at hc;rcases hc with rfl | rfl | rfl | rfl | rfl
  ·exact HF.sc _
  ·exact HF.sc _
  ·exact HF.sc _
  ·exact Yk _
  ·exact HF.sc _)
def q9 (nm:ByteArray) (p:Int):Nd := .mk 1 nm 0 [] p
theorem useU (nm:ByteArray) (p:Int):qt Tryz.prog 34 [aS nm,aI p] (eNd (q9 nm p)):=by
 refine qSQ Tryz.call34 Tryz.func34 rfl {} ?_;have hq:cNd (q9 nm p)=[aI 1,aS nm,aI 0,lNd [],aI p]:=by rw [yk];rfl
 rw [eNd,hq];simp [go_sem];refine .agg _ _ rfl fun k x y hx hy=>?_
 match k,hx,hy with
 | 0,hx,hy=>simp at hx hy;subst hx;subst hy;exact .hf _ (HF.sc _)
 | 1,hx,hy=>simp at hx hy;subst hx;subst hy;exact .hf _ (HF.sc _)
 | 2,hx,hy=>simp at hx hy;subst hx;subst hy;exact .hf _ (HF.sc _)
 | 3,hx,hy=>simp at hx hy;subst hx;subst hy;exact .wk _ true _ (.hf _ (HF.lst fun r hr=>absurd hr zb))
 | 4,hx,hy=>simp at hx hy;subst hx;subst hy;exact .hf _ (HF.sc _)
 |k+5,hx,hy=>simp at hx
end Go.Proofs.YtcfopdccdeeleaaGreatDoor.Q9


namespace Go.Proofs.YtcfopdccdeeleaaGreatDoor.PA
open Go Go.Ev Go.Proofs Go.Proofs.YtcfopdccdeeleaaGreatDoor P1 P2 Y1 Y2 Y3 Y4 Y5 Y6 Y7 Y8 Y9 Y10 Y11 Y12 Y13 Y14 Y15 Y16 YV YW Q4 Q5 Q6 Q7 Q8 Q9
def lookS (nm:ByteArray) (s:Scp):Option Kd:=(ji nm s).head?.map Prod.snd
theorem kU (c:Ck) (s:Scp) (nm:ByteArray) (pos:Int):jj c s nm pos=match lookS nm s with
  |some k => .ok (some k)
  |none=>match ya c.ts nm with
   | [] => .error (40,pos)
   | [k] => .ok (some k)
   |_ => .error (44,pos):=by
 unfold jj lookS;cases ji nm s with
 |nil=>rfl
 |cons v r=>rfl
theorem qeD {c c':Ck} {s s':Scp} {inn:Bool} {n n':Nd} (hop:n'.op=n.op) (hnm:n'.name=n.name) (hn:n'.n=n.n) (hp:n'.pos=n.pos)
  (ht:yO c' n.op n.name=yO c n.op n.name) (h1:n.op=1→jj c s n.name n.pos=jj c' s' n.name n.pos) (hpr:c'.ts.preds=c.ts.preds) (hcal:zJ c' n.name=zJ c n.name)
  (hns:c'.ts.sorts.length=c.ts.sorts.length) (hlen:n'.kids.length=n.kids.length)
  (hA:n.op=47→∀ ps,yc c s n.pos ps n.kids=yc c' s' n.pos ps n'.kids)
  (hB:(n.op=15∨n.op=45∨n.op=46)→∀ inn,yU c s inn n.name n.pos n.kids=yU c' s' inn n.name n.pos n'.kids)
  (hL:¬n.op=1→¬n.op=47→¬(n.op=15∨n.op=45∨n.op=46)→∀ inn,zB c s inn n.kids=zB c' s' inn n'.kids):exam c s inn n=exam c' s' inn n':=by
 rw [vA,vA,hop,hnm,hn,hp,ht,hpr,hcal,hns,hlen];by_cases a:(inn&&yO c n.op n.name)=true
 ·rw [if_pos a,if_pos a]
 rw [if_neg a,if_neg a];by_cases b:n.op=1
 ·rw [if_pos b,if_pos b];exact h1 b
 rw [if_neg b,if_neg b];by_cases d:n.op=47
 ·rw [if_pos d,if_pos d]
  simp only [hA d]
 rw [if_neg d,if_neg d];by_cases e:n.op=15∨n.op=45∨n.op=46
 ·rw [if_pos e,if_pos e];exact hB e _
 rw [if_neg e,if_neg e,hL b d e]
theorem kV {c c':Ck} {s s':Scp} {inn:Bool} (f:Nd→Nd):∀{ks:List Nd},(∀ k,k∈ks→exam c s inn k=exam c' s' inn (f k))→zB c s inn ks=zB c' s' inn (ks.map f)
 | [],_=>rfl
 |k :: ks,h=>by
  simp only [List.map_cons,zB];rw [h k (zG ..),kV f fun k' hk=>h k' (zt _ hk)]
theorem kW {c c':Ck} {s s':Scp} {pos:Int} (f:Nd→Nd):∀{ks:List Nd} {ps:List (ByteArray×Int)},(∀ k,k∈ks→exam c s true k=exam c' s' true (f k))→yc c s pos ps ks=yc c' s' pos ps (ks.map f)
 | [],ps,_=>by cases ps<;>rfl
 |k :: ks,[],_=>rfl
 |k :: ks,p :: ps,h=>by
  simp only [List.map_cons,yc];rw [h k (zG ..),kW f (ps:=ps) fun k' hk=>h k' (zt _ hk)]
theorem kX {c c':Ck} {s s':Scp} {inn:Bool} {ks:List Nd} (h:∀ k,k∈ks→exam c s inn k=exam c' s' inn k):zB c s inn ks=zB c' s' inn ks:=by
 have:=kV (c:=c) (c':=c') (s:=s) (s':=s') (inn:=inn) id (ks:=ks) h
 rwa [List.map_id] at this
theorem qeE {c c':Ck} {s s':Scp} {pos:Int} {ks:List Nd} {ps:List (ByteArray×Int)} (h:∀ k,k∈ks→exam c s true k=exam c' s' true k):yc c s pos ps ks=yc c' s' pos ps ks:=by
 have:=kW (c:=c) (c':=c') (s:=s) (s':=s') (pos:=pos) id (ks:=ks) (ps:=ps) h
 rwa [List.map_id] at this
def wf (ts:TS) (fa:List (ByteArray×Nd)):TS:=⟨ts.sorts,ts.fields,ts.preds,fa⟩
theorem qeF {α:Type} (eqv:α→α→Bool) (l:List α) (i:Nat):(repL eqv l)[i]?=(l[i]?).map fun x=>(l.take i).any fun y=>eqv x y:=by
 by_cases h:i<l.length
 ·rw [Qh eqv l h,qX h];rfl
 ·rw [yx (by rw [yQ];omega),yx (by omega)];rfl
theorem kY {α:Type} (eqv:α→α→Bool) (l:List α) (i:Nat):repB eqv l i=match l[i]? with | some x=>[(l.take i).any fun y=>eqv x y] | none=>[]:=by
 unfold repB;rw [List.take_add_one,qeF,List.drop_append];by_cases h:i<l.length
 ·rw [qX h,List.length_take,yQ,Nat.min_eq_left (by omega),List.drop_of_length_le (by simp;omega)]
  simp
 ·rw [yx (by omega),List.drop_of_length_le (by simp;omega)]
  simp
def binB (op:Int):Bool:=decide (op=15)||decide (op=45)||decide (op=46)
mutual
def renN (a b:ByteArray):Nd→Nd
 | .mk op nm n ks p=>if op=1∧nm=a then .mk op b n ks p else .mk op nm n (yM a b (binB op&&decide (nm=a)) 0 ks) p
def yM (a b:ByteArray) (q:Bool):Nat→List Nd→List Nd
 |_,[]=>[]
 |i,k :: ks=>(if q=true∧i=1 then k else renN a b k) :: yM a b q (i+1) ks
end
theorem qeG (a b:ByteArray) (n:Nd):renN a b n=if n.op=1∧n.name=a then .mk n.op b n.n n.kids n.pos else .mk n.op n.name n.n (yM a b (binB n.op&&decide (n.name=a)) 0 n.kids) n.pos:=by
 obtain ⟨op,nm,i,ks,p⟩:=n;simp only [renN,Nd.op,Nd.name,Nd.n,Nd.kids,Nd.pos];rfl
end Go.Proofs.YtcfopdccdeeleaaGreatDoor.PA


namespace Go.Proofs.YtcfopdccdeeleaaGreatDoor.YZ
open Go Go.Ev Go.Proofs Go.Proofs.YtcfopdccdeeleaaGreatDoor YM YS YF P1 P2 Y1 Y2 Y3 Y4 Y5 Y6 Y7 Y8 Y9 Y10 Y11 Y12 Y13 Y14 Y15 Y16 YU YV YW YX
mutual
def depN:Nd→Int
 | .mk _ _ _ ks _=>ym ks+1
def ym:List Nd→Int
 | []=>0
 |k :: ks=>max (depN k) (ym ks)
end
mutual
theorem kZ:∀ n:Nd,0≤depN n
 | .mk _ _ _ ks _=>by simp only [depN];have:=Vm ks;omega
theorem Vm:∀ ks:List Nd,0≤ym ks
 | []=>by simp [ym]
 |k :: ks=>by simp only [ym];have:=Vm ks;omega
end
theorem wv (n:Nd):depN n=ym n.kids+1:=by
 obtain ⟨op,nm,i,ks,p⟩:=n;simp [depN,Nd.kids]
theorem k5 {ks:List Nd} {k:Nd} (h:k∈ks):depN k≤ym ks:=by
 induction ks with
 |nil=>simp at h
 |cons a l ih =>
  simp only [ym];rcases qK.1 h with rfl | h
  ·omega
  ·have:=ih h;omega
theorem k6:∀(m:Nat) (n:Nd),szN n≤m→Small n→depN n≤1000000→qt Tryz.prog 72 [eNd n] (aI (depN n))
 | 0,n,hm,_,_=>by obtain ⟨op,nm,i,ks,p⟩:=n;simp [szN] at hm
 |m+1,n,hm,hs,hd=>by
  have ih:∀ k,k∈n.kids→qt Tryz.prog 72 [eNd k] (aI (depN k)):=fun k hk =>
   k6 m k (by have:=yu hk;omega) (hs.kid hk) (by rw [wv] at hd;have:=k5 hk;omega)
  rw [wv] at hd ⊢;have hlen:=hs.len;have hnn:=Vm n.kids;generalize hD:ym n.kids=D at *
  refine qSQ Tryz.call72 Tryz.func72 rfl {} ?_;simp [go_sem];refine qD.upK n.kids.length (fun k st=>∃ d,st.tm 3=aI d∧st.tm 7=lNd n.kids∧st.tm 8=aI n.kids.length∧st.tm 9=aI k∧0≤d∧max d (ym (n.kids.drop k))=D) ?_ ?_
  ·exact ⟨0,by simp [go_sem],by simp [go_sem],by simp [go_sem],by simp [go_sem],by omega,by simp only [List.drop_zero,hD];omega⟩
  ·rintro k st hk ⟨d,e3,e7,e8,e9,hd0,hI⟩
   by_cases hkl:k=n.kids.length
   ·subst hkl
    rw [List.drop_length] at hI;simp only [ym] at hI;have hdD:d=D:=by omega
    subst hdD;have w:IntKind.i64.wrap (d+1)=d+1:=qy (by omega) (by omega);simp [go_sem,e3,e7,e8,e9,w];exact .hf _ (HF.sc _)
   ·have hlt:k<n.kids.length:=by omega
    have w1:IntKind.i64.wrap ((k:Int)+1)=(k:Int)+1:=qy (by omega) (by omega);rw [zA hlt] at hI;simp only [ym] at hI;simp [go_sem,e3,e7,e8,e9,hlt,qr];refine qc.pure (ih n.kids[k] (qJ hlt)) (.cons (.hf (qO _)) .nil) ?_;simp [go_sem,e3,e7,e8,e9,w1];refine ⟨hlt,Keep.mk' ?_⟩;refine ⟨if d<depN n.kids[k] then depN n.kids[k] else d,by simp [go_sem],by simp [go_sem,e7],by simp [go_sem,e8],by simp [go_sem],?_,?_⟩
    ·have:=kZ n.kids[k]
     split<;>omega
    ·split<;>omega
mutual
def preN:Nd→List Nd
 | .mk op nm n ks p => .mk op nm n ks p :: zz ks
def zz:List Nd→List Nd
 | []=>[]
 |k :: ks=>preN k++zz ks
end
theorem ww (n:Nd):preN n=n :: zz n.kids:=by
 obtain ⟨op,nm,i,ks,p⟩:=n;simp [preN,Nd.kids]
theorem Zu (a b:List Nd):zz (a++b)=zz a++zz b:=by
 induction a with
 |nil=>rfl
 |cons x a ih=>simp [zz,ih]
theorem Wy {f:FuncId} {caps:List AV} (I:List Nd→Mu→Prop) (hp:∀ v mu l,I v mu→I v (mu++l)) (hf:∀ v k mu,I v mu→qW Tryz.prog f (eNd k :: caps) mu fun e m=>e = .ret (.tup [])∧I (v++[k]) m) :
  ∀(m:Nat) (n:Nd),szN n≤m→Small n→∀(v:List Nd) (mu:Mu),I v mu→qW Tryz.prog 66 [eNd n,.fn (.func f) [] caps] mu fun e m=>e = .ret (.tup [])∧I (v++preN n) m
 | 0,n,hm,_,_,_,_=>by obtain ⟨op,nm,i,ks,p⟩:=n;simp [szN] at hm
 |m+1,n,hm,hs,v,mu,hI=>by
  have ih:∀ k,k∈n.kids→∀ v mu,I v mu→qW Tryz.prog 66 [eNd k,.fn (.func f) [] caps] mu fun e m=>e = .ret (.tup [])∧I (v++preN k) m:=fun k hk v mu hI =>
   Wy I hp hf m k (by have:=yu hk;omega) (hs.kid hk) v mu hI
  have hlen:=hs.len;rw [ww];refine qSW Tryz.call66 Tryz.func66 rfl {} ?_;simp [go_sem];refine qc.eff (hf v n mu hI) ?_ (by rintro r m ⟨e,_⟩;cases e);rintro r m ⟨e,hI1⟩;cases e;simp [go_sem];refine qD.upK n.kids.length (fun k st=>st.tm 1 = .fn (.func f) [] caps∧st.tm 10=lNd n.kids∧st.tm 11=aI n.kids.length∧st.tm 12=aI k∧I (v++[n]++zz (n.kids.take k)) st.mu) ?_ ?_
  ·exact ⟨by simp [go_sem],by simp [go_sem],by simp [go_sem],by simp [go_sem],by simpa [go_sem,zz] using hI1⟩
  ·rintro k st hk ⟨e1,e10,e11,e12,hI2⟩
   by_cases hkl:k=n.kids.length
   ·subst hkl
    rw [jC] at hI2;simp [go_sem,e1,e10,e11,e12];simpa using hI2
   ·have hlt:k<n.kids.length:=by omega
    have w1:IntKind.i64.wrap ((k:Int)+1)=(k:Int)+1:=qy (by omega) (by omega);simp [go_sem,e1,e10,e11,e12,hlt,qr];refine qc.eff0 (ih n.kids[k] (qJ hlt) _ _ (hp _ _ _ hI2)) ?_ (by rintro r m ⟨e,_⟩;cases e);rintro r m ⟨e,hI3⟩;cases e;simp [go_sem,e1,e10,e11,e12,w1];refine ⟨hlt,Keep.mk' ?_⟩;refine ⟨by simp [go_sem,e1],by simp [go_sem,e10],by simp [go_sem,e11],by simp [go_sem],?_⟩;have e:zz (n.kids.take (k+1))=zz (n.kids.take k)++preN n.kids[k]:=by
     rw [List.take_add_one,qX hlt,Zu];simp [zz]
    rw [e,←List.append_assoc];simpa [go_sem] using hI3
def setN (l:List ByteArray) (b:ByteArray):List (ByteArray×Bool)→List (ByteArray×Bool):=fun es=>setK b true es
abbrev eSet (es:List (ByteArray×Bool)):List (AV×AV):=encK aS aB es
theorem updS {mu:Mu} {b:Nat} {es:List (ByteArray×Bool)} (hm:mu[b]?=some (.mp (eSet es))) (nm:ByteArray) :
  jS Tryz.prog mu 122 (.mp b) (aS nm) (aB true)=some (mu.set b (.mp (eSet (setK nm true es)))):=
 keyS.update (et:=4) (t:=122) (by simp [go_sem]) (mu:=mu) (b:=b) (venc:=aB) (es:=es) hm (k:=nm) (v:=true) trivial (fun _ _=>trivial)
theorem qeH (ts:TS) (s:ISt) (tb:Nat) (c:Bool) (es:List (ByteArray×Bool)) (n:Nd) {mu:Mu} {xp cb xb:Nat} (h1:mu[xp]?=some (.arr [.ptr xb 0])) (hx:mu[xb]?=some (.arr (cIn ts tb s))) (hc:mu[cb]?=some (.arr [aB c])) (ht:mu[tb]?=some (.mp (eSet es))) :
  qW Tryz.prog 67 [eNd n,.ptr xp 0,.ptr cb 0] mu fun e m=>e = .ret (.tup [])∧m=(mu.set tb (.mp (eSet (setK n.name true es)))).set cb (.arr [aB (c||decide (n.op=47))]):=by
 refine qSW Tryz.call67 Tryz.func67 rfl {} ?_;have hcl:cb<mu.length:=(qv.1 hc).1;have htl:tb<mu.length:=(qv.1 ht).1;simp [go_sem,h1,hx,hc];refine qx.intro (by kernel_rfl) ?_;have hu:=updS ht n.name;simp [go_sem,h1,hx,hc];refine OptK.intro _ hu ?_;have hne:tb≠cb:=fun e=>by rw [e,hc] at ht;cases ht
 generalize hN:Cell.mp (eSet (setK n.name true es))=N at *
 have hcb:(mu.set tb N)[cb]?=some (.arr [aB c]):=by rw [qL hne];exact hc
 cases c
 ·simp [go_sem,h1,hx,hcb]
  try rfl
 ·simp [go_sem,h1,hx,hcb]
  try rfl
theorem qeI (ts:TS) (s:ISt) (tb:Nat) (es:List (ByteArray×Bool)) (n:Nd) {mu:Mu} {xp xb:Nat} (h1:mu[xp]?=some (.arr [.ptr xb 0])) (hx:mu[xb]?=some (.arr (cIn ts tb s))) (ht:mu[tb]?=some (.mp (eSet es))) :
  qW Tryz.prog 68 [eNd n,.ptr xp 0] mu fun e m=>e = .ret (.tup [])∧m=mu.set tb (.mp (eSet (setK n.name true es))):=by
 refine qSW Tryz.call68 Tryz.func68 rfl {} ?_;have htl:tb<mu.length:=(qv.1 ht).1;simp [go_sem,h1,hx];refine qx.intro (by kernel_rfl) ?_;have hu:=updS ht n.name;simp [go_sem,h1,hx];refine OptK.intro _ hu ?_;simp [go_sem,h1,hx]
end Go.Proofs.YtcfopdccdeeleaaGreatDoor.YZ


namespace Go.Proofs.YtcfopdccdeeleaaGreatDoor.YA
open Go Go.Ev Go.Proofs Go.Proofs.YtcfopdccdeeleaaGreatDoor YM YS YF P1 P2 Y1 Y2 Y3 Y4 Y5 Y6 Y7 Y8 Y9 Y10 Y11 Y12 Y13 Y14 Y15 Y16 YU YV YW YX YZ
def vN (k:Int):ByteArray:=⟨#[118]⟩++jr k
theorem Wz (k:Int) (h0 : -9223372036854775808≤k) (h1:k≤9223372036854775807):(jr k).size≤21:=by
 have:=Lib.itoa_length_le k h0 h1;unfold jr;simpa [ByteArray.size] using this
def yW (ts:TS) (es:List (ByteArray×Bool)) (nm:ByteArray):Bool:=decide (getK nm es≠some true)&&decide (ya ts nm=[])
def zD (ts:TS) (es:List (ByteArray×Bool)):Nat→Int→Int
 | 0,k=>k+1
 |f+1,k=>if yW ts es (vN (k+1))=true then k+1 else zD ts es f (k+1)
theorem qeJ {mu:Mu} {tb:Nat} {es:List (ByteArray×Bool)} (ht:mu[tb]?=some (.mp (eSet es))) (nm:ByteArray):yT Tryz.prog mu 122 (.mp tb) (aS nm) false=some (aB (decide (getK nm es=some true))):=by
 have:=keyS.look (et:=4) (t:=122) (by simp [go_sem]) (mu:=mu) (m := .mp tb) (venc:=aB) (es:=es) (by simp only [j6,ht]) (k:=nm) trivial (fun _ _=>trivial) (z:=aB false) (by simp [go_sem]) false;refine Eq.trans ?_ (this.trans ?_)
 ·rfl
 ·cases getK nm es with
  |none=>rfl
  |some b=>cases b<;>rfl
theorem qeK {mu:Mu} {b:Nat} {c:Cell} (h:mu[b]?=some c):mu.set b c=mu:=by
 apply List.ext_getElem?;intro i;by_cases e:b=i
 ·subst e
  rw [zd (qv.1 h).1,h]
 ·rw [qL e]
theorem k7 (ts:TS) (h:okTS ts) (s:ISt) (F:Nat) (hs:0≤s.last∧s.last+F≤1000000000) (tb:Nat) (es:List (ByteArray×Bool)) (hex:∃ j:Nat,1≤j∧j≤F∧yW ts es (vN (s.last+j))=true) {mu:Mu} {xb:Nat} (hx:mu[xb]?=some (.arr (cIn ts tb s))) (ht:mu[tb]?=some (.mp (eSet es))) :
  qW Tryz.prog 158 [.ptr xb 0] mu fun e m=>e = .ret (aS (vN (zD ts es F s.last)))∧m=mu.set xb (.arr (cIn ts tb ⟨zD ts es F s.last,s.cost⟩)):=by
 refine qSW Tryz.call158 Tryz.func158 rfl {} ?_;have hxl:xb<mu.length:=(qv.1 hx).1;have hne:tb≠xb:=fun e=>by rw [e,hx] at ht;cases ht
 simp [go_sem];generalize hR:zD ts es F s.last=R;refine qD.keep (fun m st=>∃ l:Int,0≤l∧l+m≤1000000000∧st.tm 0 = .ptr xb 0∧st.mu=mu.set xb (.arr (cIn ts tb ⟨l,s.cost⟩))∧zD ts es m l=R∧∃ j:Nat,1≤j∧j≤m∧yW ts es (vN (l+j))=true) F ?_ ?_
 ·refine ⟨s.last,hs.1,hs.2,by simp [go_sem],?_,hR,hex⟩
  simp only [go_sem,qT,st0];rw [show cIn ts tb ⟨s.last,s.cost⟩=cIn ts tb s from rfl];exact (qeK hx).symm
 ·rintro m st ⟨l,hl0,hlm,e0,hm,hI,j,hj1,hjm,hfr⟩
  obtain ⟨m,rfl⟩:∃ m',m=m'+1:=⟨m-1,by omega⟩;have w1:IntKind.i64.wrap (l+1)=l+1:=qy (by omega) (by omega);have hx1:∀ c,(mu.set xb c)[xb]?=some c:=fun c=>zd hxl
  have hss:∀ c d,(mu.set xb c).set xb d=mu.set xb d:=fun c d=>List.set_set ..
  have ht1:∀ c,(mu.set xb c)[tb]?=some (.mp (eSet es)):=fun c=>by rw [qL (fun e=>hne e.symm)];exact ht
  have hsz:=Wz (l+1) (by omega) (by omega);have hsz2:1+(jr (l+1)).size≤9223372036854775807:=by omega
  simp [go_sem,e0,hm,hx,hx1,hss,w1];refine qc.pure (itoaU (l+1) (by omega) (by omega)) (.cons (.hf (HF.sc _)) .nil) ?_;simp [go_sem,e0,hx1,hss,hsz2];rw [show (⟨#[118]⟩:ByteArray)++jr (l+1)=vN (l+1) from rfl];generalize hnm:vN (l+1)=nm;have hlk:=fun c=>qeJ (ht1 c) nm
  simp [go_sem] at hlk;refine OptK.intro _ (hlk _) ?_;have again:yW ts es nm=false→zD ts es m (l+1)=R∧∃ j:Nat,1≤j∧j≤m∧yW ts es (vN (l+1+j))=true:=fun hn=>by
   simp only [zD,hnm,hn] at hI;refine ⟨by simpa using hI,j-1,?_,by omega,?_⟩
   ·have:j≠1:=fun e=>by rw [e,show l+((1:Nat):Int)=l+1 by omega,hnm,hn] at hfr;cases hfr
    omega
   ·rw [show l+1+((j-1:Nat):Int)=l+j by omega];exact hfr
  by_cases hg:getK nm es=some true
  case pos =>
   obtain ⟨a1,a2⟩:=again (by simp [yW,hg]);simp [go_sem,e0,hx1,hss,hg];refine Keep.loop m (by omega) ⟨l+1,by omega,by omega,by simp [go_sem,e0],by simp [go_sem],a1,a2⟩
  case neg =>
   simp [go_sem,e0,hx1,hss,hg];refine qc.pure (Wf ts h nm) (.cons (.hf (zq ts)) (.cons (.hf (HF.sc _)) .nil)) ?_;by_cases hmn:ya ts nm=[]
   ·have hR2:R=l+1:=by
     rw [←hI];simp [zD,hnm,yW,hg,hmn]
    subst hR2;simp [go_sem,e0,hx1,hss,hmn];rw [hnm]
    try rfl
   ·obtain ⟨a1,a2⟩:=again (by simp [yW,hmn])
    simp [go_sem,e0,hx1,hss,hmn];refine Keep.loop m (by omega) ⟨l+1,by omega,by omega,by simp [go_sem,e0],by simp [go_sem],a1,a2⟩
end Go.Proofs.YtcfopdccdeeleaaGreatDoor.YA


namespace Go.Proofs.YtcfopdccdeeleaaGreatDoor.YB
open Go Go.Ev Go.Proofs Go.Proofs.YtcfopdccdeeleaaGreatDoor YM YS YF P1 P2 Y1 Y2 Y3 Y4 Y5 Y6 Y7 Y8 Y9 Y10 Y11 Y12 Y13 Y14 Y15 Y16 YU YV YW YX YZ YA
def qC (ts:TS) (es:List (ByteArray×Bool)):Nat:=es.length+ts.fields.length+3*ts.sorts.length+1
def renI (ts:TS) (es:List (ByteArray×Bool)) (env:IEnv) (nm:ByteArray) (body:Bool) (s:ISt):(IEnv×ByteArray)×ISt:=
 if body=true∨ya ts nm≠[] then
  ((setK nm ⟨none,0,vN (zD ts es (qC ts es) s.last)⟩ (delK nm env),vN (zD ts es (qC ts es) s.last)),⟨zD ts es (qC ts es) s.last,s.cost⟩)
 else ((delK nm env,nm),s)
theorem wA {κ α:Type} [DecidableEq κ] {k:κ} {v:α}:∀{es:List (κ×α)},(es.map Prod.fst).Nodup→∀{x:κ×α},x∈setK k v es↔x=(k,v)∨(x∈es∧x.1≠k)
 | [],_,x=>by simp [setK]
 |e :: es,h,x=>by
  rw [List.map_cons,List.nodup_cons] at h;unfold setK;by_cases hk:k=e.1
  ·rw [if_pos hk,qK,qK]
   constructor
   ·rintro (h1 | h1)
    ·exact .inl h1
    ·exact .inr ⟨.inr h1,fun e1=>h.1 (qE.2 ⟨x,h1,by rw [e1,hk]⟩)⟩
   ·rintro (h1 | ⟨h1 | h1,h2⟩)
    ·exact .inl h1
    ·exact absurd (by rw [h1,hk]) h2
    ·exact .inr h1
  ·rw [if_neg hk,qK,qK,wA h.2]
   constructor
   ·rintro (h1 | h1 | h1)
    ·exact .inr ⟨.inl h1,fun e1=>hk (by rw [←e1,h1])⟩
    ·exact .inl h1
    ·exact .inr ⟨.inr h1.1,h1.2⟩
   ·rintro (h1 | ⟨h1 | h1,h2⟩)
    ·exact .inr (.inl h1)
    ·exact .inl h1
    ·exact .inr (.inr ⟨h1,h2⟩)
theorem vE {g:Nat→Bool} {m:Mu} {i:Nat} (h:g i=true):(cutM g m 0)[i]?=m[i]?:=by
 rw [vg,Nat.zero_add];simp only [h,if_true];cases m[i]?<;>rfl
theorem WA {es:IEnv} {x:AV×AV}:x∈encK aS eIV es↔∃ y,y∈es∧(aS y.1,eIV y.2)=x:=qE
theorem WB {es:IEnv} (h:(es.map Prod.fst).Nodup):((encK aS eIV es).map Prod.fst).Nodup:=by
 have e:(encK aS eIV es).map Prod.fst=(es.map Prod.fst).map aS:=by simp [encK]
 rw [e];exact List.pairwise_map.2 (h.imp fun hne e=>hne (by cases e;rfl))
theorem qeL {mu:Mu} {b:Nat} {es fs:IEnv} (hc:mu[b]?=some (.md (encK aS eIV es))) (h1:(es.map Prod.fst).Nodup) (h2:(fs.map Prod.fst).Nodup) (hm:∀ x,x∈es↔x∈fs):Rd mu (.mp b) (eEnv fs):=by
 refine Rd.mds hc (WB h1) (WB h2) (fun x=>?_) (fun x hx=>?_)
 ·rw [WA,WA]
  exact ⟨fun ⟨y,h,e⟩=>⟨y,(hm y).1 h,e⟩,fun ⟨y,h,e⟩=>⟨y,(hm y).2 h,e⟩⟩
 ·obtain ⟨y,_,rfl⟩:=WA.1 hx
  exact ⟨HF.sc _,qd2 _⟩
theorem updE {mu:Mu} {b:Nat} {es:IEnv} (hm:mu[b]?=some (.mp (encK aS eIV es))) (nm:ByteArray) (v:IV) :
  jS Tryz.prog mu 129 (.mp b) (aS nm) (eIV v)=some (mu.set b (.mp (encK aS eIV (setK nm v es)))):=
 keyS.update (et:=181) (t:=129) (by simp [go_sem]) (mu:=mu) (b:=b) (venc:=eIV) (es:=es) hm (k:=nm) (v:=v) trivial (fun _ _=>trivial)
theorem k8 {mu:Mu} {b:Nat} {es:IEnv} (hm:mu[b]?=some (.md (encK aS eIV es))) (nm:ByteArray) (v:IV) :
  jS Tryz.prog mu 129 (.mp b) (aS nm) (eIV v)=some (mu.set b (.md (encK aS eIV (setK nm v es)))):=
 keyS.updateD (et:=181) (t:=129) (by simp [go_sem]) (mu:=mu) (b:=b) (venc:=eIV) (es:=es) hm (k:=nm) (v:=v) trivial (fun _ _=>trivial)
structure But (xb:Nat) (mu m:Mu):Prop where
 len:mu.length≤m.length
 same:∀ i,i<mu.length→i≠xb→m[i]?=mu[i]?
theorem But.trans {xb:Nat} {a b c:Mu} (h:But xb a b) (k:But xb b c):But xb a c:=⟨yZ h.len k.len,fun i hi hn=>(k.same i (Nat.lt_of_lt_of_le hi h.len) hn).trans (h.same i hi hn)⟩
theorem But.app (xb:Nat) (mu l:Mu):But xb mu (mu++l):=⟨by simp,fun i hi _=>qz hi⟩
theorem But.setX (xb:Nat) (mu:Mu) (c:Cell):But xb mu (mu.set xb c):=⟨by simp,fun i hi hn=>qL (fun e=>hn e.symm)⟩
theorem But.setN {xb:Nat} {mu m:Mu} (h:But xb mu m) {j:Nat} (hj:mu.length≤j) (c:Cell):But xb mu (m.set j c):=⟨by simpa using h.len,fun i hi hn=>by rw [qL (by omega)];exact h.same i hi hn⟩
theorem But.cut {xb:Nat} {mu m:Mu} (h:But xb mu m) {g:Nat→Bool} (hg:∀ i,i<mu.length→g i=true):But xb mu (cutM g m 0):=⟨by rw [jQ];exact h.len,fun i hi hn=>by rw [vE (hg i hi)];exact h.same i hi hn⟩
theorem qeM (a:Option Nd):(aArg a).one=true:=by cases a<;>rfl
theorem qeN (a:Option Nd):(aArg a).cells=[aArg a]:=by cases a<;>rfl
theorem WC (ts:TS) (h:okTS ts) (s:ISt) (es:List (ByteArray×Bool)) (hs:0≤s.last∧s.last+(qC ts es:Nat)≤1000000000) (tb:Nat) (hex:∃ j:Nat,1≤j∧j≤qC ts es∧yW ts es (vN (s.last+j))=true) (env:IEnv) (hk:(env.map Prod.fst).Nodup) (nm:ByteArray) (body:Bool)
  {mu:Mu} {xb:Nat} (hx:mu[xb]?=some (.arr (cIn ts tb s))) (ht:mu[tb]?=some (.mp (eSet es))) :
  qW Tryz.prog 117 [.ptr xb 0,eEnv env,aS nm,aB body] mu fun e m=>e = .ret (.tup [eEnv (renI ts es env nm body s).1.1,aS (renI ts es env nm body s).1.2])∧But xb mu m∧m[xb]?=some (.arr (cIn ts tb (renI ts es env nm body s).2)):=by
 refine qW.give ?_;refine qSW Tryz.call117 Tryz.func117 rfl {} ?_;have hxl:xb<mu.length:=(qv.1 hx).1;have htl:tb<mu.length:=(qv.1 ht).1;have hne:tb≠xb:=fun e=>by rw [e,hx] at ht;cases ht
 simp [go_sem];obtain ⟨B,hB⟩:∃ B,B=encK aS eIV env:=⟨_,rfl⟩;have hBl:B.length=env.length:=by rw [hB];simp
 rw [←hB];refine qD.seen env.length (fun seen st=>st.tm 0 = .ptr xb 0∧st.tm 2=aS nm∧st.tm 3=aB body∧st.tm 10 = .mp mu.length∧st.tm 16 = .ptr (mu.length+1) 0∧But xb mu st.mu∧mu.length+1<st.mu.length∧st.mu[xb]?=mu[xb]?∧st.mu[mu.length+1]?=some (.it B seen) ∧
  ∃ acc:IEnv,st.mu[mu.length]?=some (.mp (encK aS eIV acc))∧(acc.map Prod.fst).Nodup∧∀ x,x∈acc↔∃ i,i∈seen∧env[i]?=some x) ?_ ?_
 ·refine ⟨by simp [go_sem],by simp [go_sem],by simp [go_sem],by simp [go_sem],by simp [go_sem],?_,?_,?_,by simp [go_sem],[],by simp [go_sem],by simp,by simp⟩
  ·simpa [go_sem] using But.app xb mu _
  ·simp [go_sem]
  ·show (mu++[Cell.mp [],Cell.it B []])[xb]?=mu[xb]?
   rw [qz hxl]
 ·rintro seen st hnd hlt ⟨e0,e2,e3,e10,e16,hbut,hl,hxs,hit,acc,hacc,hadup,hamem⟩
  simp [go_sem,e0,e2,e3,e10,e16];refine ⟨mu.length+1,B,seen,rfl,hit,fun i e hi hns=>?_,fun hall=>?_⟩
  ·have hy:∃ y,env[i]?=some y∧e=(aS y.1,eIV y.2):=by
    rw [hB,zM,wb] at hi;obtain ⟨y,hy,rfl⟩:=hi;exact ⟨y,hy,rfl⟩
   obtain ⟨⟨k,va,vz,vn⟩,hy,rfl⟩:=hy;have hil:i<env.length:=(qv.1 hy).1;have hacc':∀(c:Cell) (l:List Cell),(st.mu.set (mu.length+1) c++l)[mu.length]?=some (.mp (encK aS eIV acc)):=fun c l=>by
    rw [qz (by simp;omega),qL (by omega)];exact hacc
   have hu:=fun c l=>updE (hacc' c l) k ⟨va,vz,vn⟩
   simp [go_sem,e0,e2,e3,e10,e16,hit,hi,hl,hns,qeM,qeN];refine OptK.intro _ (hu _ _) ?_;generalize hM:List.set (st.mu.set (mu.length+1) (Cell.it B (seen++[i]))++[Cell.arr [aArg va,aI vz,aS vn]]) mu.length (.mp (encK aS eIV (setK k ⟨va,vz,vn⟩ acc)))=M;have hMl:M.length=st.mu.length+1:=by rw [←hM];simp
   have hMg:∀ j,j<st.mu.length→j≠mu.length→j≠mu.length+1→M[j]?=st.mu[j]?:=fun j h1 h2 h3=>by
    rw [←hM,qL (by omega),qz (by simpa using h1),qL (by omega)]
   have hM0:M[mu.length]?=some (.mp (encK aS eIV (setK k ⟨va,vz,vn⟩ acc))):=by
    rw [←hM,zd (by simp;omega)]
   have hM1:M[mu.length+1]?=some (.it B (seen++[i])):=by
    rw [←hM,qL (by omega),qz (by simpa using hl),zd hl]
   have hkacc:∀ v,(k,v)∈acc→False:=fun v hm=>by
    obtain ⟨j,hj,he⟩:=(hamem _).1 hm;have h1:(env.map Prod.fst)[j]?=some k:=by rw [zM,he];rfl
    have h2:(env.map Prod.fst)[i]?=some k:=by rw [zM,hy];rfl
    have hjl:j<(env.map Prod.fst).length:=(qv.1 h1).1;exact hns ((List.getElem?_inj hjl hk).1 (h1.trans h2.symm) ▸ hj)
   simp [go_sem,e0,e2,e3,e10,e16];refine ⟨i,hil,hns,Keep.mk' ?_⟩;refine ⟨by simp [go_sem,e0],by simp [go_sem,e2],by simp [go_sem,e3],by simp [go_sem,e10],by simp [go_sem,e16],?_,by simp only [go_sem,qT];omega,?_,by simpa [go_sem] using hM1,_,by simpa [go_sem] using hM0,uT hadup,fun x v=>?_⟩
   ·simp only [go_sem,qT]
    exact ⟨by omega,fun j hj hn=>by rw [hMg j (by omega) (by omega) (by omega)];exact hbut.same j hj hn⟩
   ·simp only [go_sem,qT]
    rw [hMg xb (by omega) (by omega) (by omega)];exact hxs
   ·rw [wA hadup,hamem]
    constructor
    ·rintro (e | ⟨⟨j,hj,he⟩,_⟩)
     ·exact ⟨i,by simp,by rw [hy,e]⟩
     ·exact ⟨j,by simp [hj],he⟩
    ·rintro ⟨j,hj,he⟩
     rcases zh.1 hj with hj | hj
     ·refine .inr ⟨⟨j,hj,he⟩,fun e=>?_⟩
      simp only at e;subst e;exact hkacc v ((hamem _).2 ⟨j,hj,he⟩)
     ·rw [zj] at hj
      subst hj;rw [hy] at he;exact .inl (Option.some.inj he).symm
  ·simp [go_sem,e0,e2,e3,e10,e16,hit]
   have hfull:∀ x,x∈acc↔x∈env:=fun x=>by
    rw [hamem];constructor
    ·rintro ⟨i,_,he⟩;exact ze he
    ·intro hx
     obtain ⟨i,he⟩:=List.mem_iff_getElem?.1 hx;exact ⟨i,hall i (by rw [hBl];exact (qv.1 he).1),he⟩
   refine keyS.delete (et:=181) (t:=129) (by simp [go_sem]) hacc trivial (fun _ _=>trivial) ?_;have hdd:=wV (k:=nm) hadup;have hdm:∀ x,x∈delK nm acc↔x∈delK nm env:=fun x=>by rw [J4 hadup,J4 hk,hfull]
   have hxl':mu.length<st.mu.length:=by omega
   have hx':∀ c,(st.mu.set mu.length c)[xb]?=some (.arr (cIn ts tb s)):=fun c=>by rw [qL (by omega),hxs];exact hx
   have ht':∀ c,(st.mu.set mu.length c)[tb]?=some (.mp (eSet es)):=fun c=>by rw [qL (by omega),hbut.same tb htl hne];exact ht
   have hbut':∀ c,But xb mu (st.mu.set mu.length c):=fun c=>hbut.setN (qB _) c
   have hD:∀ c,(st.mu.set mu.length c)[mu.length]?=some c:=fun c=>zd hxl'
   generalize hM:st.mu.set mu.length (.md (encK aS eIV (delK nm acc)))=M;have hxM:M[xb]?=some (.arr (cIn ts tb s)):=by rw [←hM];exact hx' _
   have htM:M[tb]?=some (.mp (eSet es)):=by rw [←hM];exact ht' _
   have hbM:But xb mu M:=by rw [←hM];exact hbut' _
   have hDM:M[mu.length]?=some (.md (encK aS eIV (delK nm acc))):=by rw [←hM];exact hD _
   have hML:mu.length<M.length:=(qv.1 hDM).1;have fin:∀(m:Mu) (es1 fs:IEnv) (nm1:ByteArray) (s1:ISt),But xb mu m→m[mu.length]?=some (.md (encK aS eIV es1))→(es1.map Prod.fst).Nodup→(fs.map Prod.fst).Nodup→(∀ x,x∈es1↔x∈fs)→m[xb]?=some (.arr (cIn ts tb s1))→((fs,nm1),s1)=renI ts es env nm body s →
     ∃(g:Nat→Bool) (x:AV),Gv m g (.tup [.mp mu.length,aS nm1]) x∧x = .tup [eEnv (renI ts es env nm body s).1.1,aS (renI ts es env nm body s).1.2]∧But xb mu (cutM (fun i=>!g i) m 0)∧(cutM (fun i=>!g i) m 0)[xb]?=some (.arr (cIn ts tb (renI ts es env nm body s).2)):=by
    intro m es1 fs nm1 s1 hb hd n1 n2 hm hxx e;rw [←e];refine ⟨fun i=>i == mu.length,.tup [eEnv fs,aS nm1],.rd _ _ (.tup _ _ rfl fun k x y hx hy=>?_),rfl,hb.cut fun i hi=>by simp;omega,?_⟩
    ·match k with
     | 0 =>
      simp at hx hy;subst hx;subst hy;exact qeL (by rw [vE (by simp)];exact hd) n1 n2 hm
     | 1 =>
      simp at hx hy;subst hx;subst hy;exact .hf _ (HF.sc _)
     |k+2=>simp at hx
    ·rw [vE (by simp;omega)];exact hxx
   have hout:∀(st':St) (K:zu→St→Prop),True:=fun _ _=>trivial
   by_cases hb:body=true
   ·subst hb
    simp [go_sem,e0,e2,e3,e10];refine qc.eff0 (k7 ts h s (qC ts es) hs tb es hex hxM htM) ?_ (by rintro r m ⟨e,_⟩;cases e);rintro r m ⟨e,rfl⟩;cases e;have hu:=k8 (mu:=M.set xb (.arr (cIn ts tb ⟨zD ts es (qC ts es) s.last,s.cost⟩))) (b:=mu.length) (by rw [qL (by omega)];exact hDM) nm ⟨none,0,vN (zD ts es (qC ts es) s.last)⟩;simp [go_sem,e0,e2,e3,e10];refine OptK.intro _ hu ?_;simp [go_sem,e0,e2,e3,e10];refine (fin _ _ _ _ ⟨zD ts es (qC ts es) s.last,s.cost⟩ ((hbM.trans (But.setX xb M _)).setN (qB _) _) (zd (by simpa using hML)) (uT hdd) (uT (wV hk)) (fun x=>by rw [wA hdd,wA (wV hk),hdm]) (by rw [qL (by omega),zd (by omega)];rfl) ?_);simp [renI]
   ·have hb:body=false:=by simpa using hb
    subst hb;simp [go_sem,e0,e2,e3,e10,hxM];refine qc.pure (Wf ts h nm) (.cons (.hf (zq ts)) (.cons (.hf (HF.sc _)) .nil)) ?_;by_cases hmn:ya ts nm=[]
    ·simp [go_sem,e0,e2,e3,e10,hxM,hmn]
     refine (fin M _ _ _ _ hbM hDM hdd (wV hk) hdm hxM ?_);simp [renI,hmn]
    ·have hpos:0<(ya ts nm).length:=List.length_pos_iff.2 hmn
     simp [go_sem,e0,e2,e3,e10,hxM,hmn,hpos];refine qc.eff0 (k7 ts h s (qC ts es) hs tb es hex hxM htM) ?_ (by rintro r m ⟨e,_⟩;cases e);rintro r m ⟨e,rfl⟩;cases e;have hu:=k8 (mu:=M.set xb (.arr (cIn ts tb ⟨zD ts es (qC ts es) s.last,s.cost⟩))) (b:=mu.length) (by rw [qL (by omega)];exact hDM) nm ⟨none,0,vN (zD ts es (qC ts es) s.last)⟩;simp [go_sem,e0,e2,e3,e10];refine OptK.intro _ hu ?_;simp [go_sem,e0,e2,e3,e10];refine (fin _ _ _ _ ⟨zD ts es (qC ts es) s.last,s.cost⟩ ((hbM.trans (But.setX xb M _)).setN (qB _) _) (zd (by simpa using hML)) (uT hdd) (uT (wV hk)) (fun x=>by rw [wA hdd,wA (wV hk),hdm]) (by rw [qL (by omega),zd (by omega)];rfl) ?_);simp [renI,hmn]
end Go.Proofs.YtcfopdccdeeleaaGreatDoor.YB


namespace Go.Proofs.YtcfopdccdeeleaaGreatDoor.YC
open Go Go.Ev Go.Proofs Go.Proofs.YtcfopdccdeeleaaGreatDoor YM P1 P2 Y1 Y2 Y3 Y4 Y5 Y9 YX YZ YA YB PA
abbrev XR (α:Type):=Except Dg (α×ISt)
def jv (E:Nd→ISt→XR (Nd×Int)):List (ByteArray×Int)→List Nd→IEnv→ISt→XR IEnv
 |p :: ps,k :: ks,own,s=>match E k s with
  | .error e => .error e
  | .ok ((k',m),s')=>jv E ps ks (setK p.1 ⟨some k',m,⟨#[]⟩⟩ own) s'
 |_,_,own,s => .ok (own,s)
def jl (E:IEnv→Nd→ISt→XR (Nd×Int)) (R:IEnv→ByteArray→ISt→(IEnv×ByteArray)×ISt) (bin:Bool):Nat→IEnv→ByteArray→List Nd→ISt→XR (ByteArray×List Nd×Int)
 |_,_,nm,[],s => .ok ((nm,[],0),s)
 |i,env,nm,k :: ks,s =>
  let r:=if bin=true∧i=1 then R env nm s else ((env,nm),s)
  match E r.1.1 k r.2 with
  | .error e => .error e
  | .ok ((k',m),s')=>match jl E R bin (i+1) r.1.1 r.1.2 ks s' with
   | .error e => .error e
   | .ok ((nm',ks',m'),s'') => .ok ((nm',k' :: ks',m+m'),s'')
def vT {α β:Type} (q:XR α) (g:α→ISt→XR β):XR β:=
 match q with
 | .error e => .error e
 | .ok (a,s)=>g a s
theorem Vn {α β:Type} {q:XR α} {g:α→ISt→XR β} {r:β×ISt} (h:vT q g = .ok r):∃ a s,q = .ok (a,s)∧g a s = .ok r:=by
 unfold vT at h;split at h
 ·cases h
 ·exact ⟨_,_,rfl,h⟩
def expI (ts:TS) (es:List (ByteArray×Bool)):Nat→IEnv→Nd→Bool→ISt→XR (Nd×Int)
 | 0,_,_,_,_ => .error (2,0)
 |f+1,env,n,body,s =>
  if s.cost+1≤4000 then
   if n.op=1 then uc env n (payS 1 s)
   else if n.op=47 then match ts.preds.find? fun p=>decide (p.name=n.name) with
    |none => .error (2,0)
    |some p=>vT (jv (fun k s=>expI ts es f env k body s) p.params n.kids [] (payS 1 s)) fun own s'=>expI ts es f own p.body true s'
   else vT (jl (fun env k s=>expI ts es f env k body s) (fun env nm s=>renI ts es env nm body s) (binB n.op) 0 env n.name n.kids (payS 1 s)) fun r s' => .ok ((.mk n.op r.1 n.n r.2.1 n.pos,1+r.2.2),s')
  else .error (2,0)
def yv (ts:TS) (n:Nd):Prop:=∀ x,x∈preN n→x.op=47→∃ p,(ts.preds.find? fun p=>decide (p.name=x.name))=some p∧p.params.length=x.kids.length
theorem qeO {ks:List Nd} {k x:Nd} (hk:k∈ks) (hx:x∈preN k):x∈zz ks:=by
 induction ks with
 |nil=>simp at hk
 |cons a l ih =>
  simp only [zz,zh];rcases qK.1 hk with rfl | hk
  ·exact .inl hx
  ·exact .inr (ih hk)
theorem k9 {n k x:Nd} (hk:k∈n.kids) (hx:x∈preN k):x∈preN n:=by
 rw [ww];exact zt _ (qeO hk hx)
theorem Vo (n:Nd):n∈preN n:=by rw [ww];exact zG ..
theorem yv.kid {ts:TS} {n k:Nd} (h:yv ts n) (hk:k∈n.kids):yv ts k:=fun x hx=>h x (k9 hk hx)
def pot (F:Nat) (s:ISt):Int:=s.cost*F-s.last
structure StOk (F:Nat) (s:ISt):Prop where
 l0:0≤s.last
 c0:0≤s.cost
 c1:s.cost≤4000
 p:0≤pot F s
theorem StOk.last {F:Nat} {s:ISt} (h:StOk F s):s.last≤4000*F:=by
 have h1:s.cost*F≤4000*F:=Int.mul_le_mul_of_nonneg_right h.c1 (by omega);have:=h.p;unfold pot at this;omega
structure zI (env:IEnv):Prop where
 nd:(env.map Prod.fst).Nodup
 sz:∀ e,e∈env→0≤e.2.size∧e.2.size≤4000
theorem zI.nil:zI []:=⟨by simp,fun e he=>by simp at he⟩
theorem zI.set {env:IEnv} (h:zI env) {k:ByteArray} {v:IV} (hv:0≤v.size∧v.size≤4000):zI (setK k v env):=
 ⟨uT h.nd,fun e he=>by
  rcases (wA h.nd).1 he with rfl | ⟨he,_⟩
  ·exact hv
  ·exact h.sz e he⟩
theorem zI.del {env:IEnv} (h:zI env) {k:ByteArray}:zI (delK k env):=⟨wV h.nd,fun e he=>h.sz e ((J4 h.nd).1 he).1⟩
theorem Vp {ts:TS} {es:List (ByteArray×Bool)} {env:IEnv} {nm:ByteArray} {body:Bool} {s:ISt} (h:zI env):zI (renI ts es env nm body s).1.1:=by
 unfold renI;split
 ·exact h.del.set ⟨by simp,by simp⟩
 ·exact h.del
theorem pa (ts:TS) (es:List (ByteArray×Bool)):∀(f:Nat) (k:Int),k<zD ts es f k∧zD ts es f k≤k+f+1
 | 0,k=>by simp only [zD];omega
 |f+1,k=>by
  simp only [zD];have:=pa ts es f (k+1);split<;>omega
theorem pb {ts:TS} {es:List (ByteArray×Bool)}:∀{f:Nat} {k:Int},(∃ j:Nat,1≤j∧j≤f∧yW ts es (vN (k+j))=true)→zD ts es f k≤k+f
 | 0,k,⟨j,h1,h2,_⟩=>by omega
 |f+1,k,⟨j,h1,h2,h3⟩=>by
  simp only [zD];split
  ·omega
  ·rename_i hn
   have hj:j≠1:=fun e=>by subst e;exact hn h3
   have:=pb (ts:=ts) (es:=es) (f:=f) (k:=k+1) ⟨j-1,by omega,by omega,by rw [show k+1+((j-1:Nat):Int)=k+j by omega];exact h3⟩;omega
def Free (ts:TS) (es:List (ByteArray×Bool)):Prop:=∀ l:Int,0≤l→∃ j:Nat,1≤j∧j≤qC ts es∧yW ts es (vN (l+j))=true
theorem Vq {ts:TS} {es:List (ByteArray×Bool)} (hfr:Free ts es) {env:IEnv} {nm:ByteArray} {body:Bool} {s:ISt} (h0:0≤s.last):0≤(renI ts es env nm body s).2.last∧(renI ts es env nm body s).2.last≤s.last+(qC ts es:Nat)∧(renI ts es env nm body s).2.cost=s.cost:=by
 unfold renI;split
 ·have h1:=pa ts es (qC ts es) s.last
  have h2:=pb (hfr s.last h0);refine ⟨?_,h2,rfl⟩;show 0≤zD ts es (qC ts es) s.last;omega
 ·exact ⟨h0,by show s.last≤_;omega,rfl⟩
structure Gos (F:Nat) (s s':ISt) (z:Int):Prop where
 l0:0≤s'.last
 c1:s'.cost≤4000
 z0:0≤z
 cz:s.cost+z≤s'.cost
 p:pot F s≤pot F s'
theorem Gos.ok {F:Nat} {s s':ISt} {z:Int} (g:Gos F s s' z) (h:StOk F s):StOk F s':=⟨g.l0,by have:=g.cz;have:=g.z0;have:=h.c0;omega,g.c1,by have:=g.p;have:=h.p;omega⟩
theorem Zz (F:Nat) (s:ISt) (n:Int):pot F (payS n s)=pot F s+n*F:=by
 unfold pot payS;simp only [Int.add_mul];omega
theorem wB {F:Nat} {s:ISt} (h:StOk F s) {n:Int} (hn:0≤n) (hc:s.cost+n≤4000):Gos F s (payS n s) n:=
 ⟨h.l0,hc,hn,Qq _,by rw [Zz];have:0≤n*(F:Int):=Int.mul_nonneg hn (by omega);omega⟩
theorem qeP {F:Nat} {env:IEnv} {n n':Nd} {s s':ISt} {z:Int} (h:StOk F s) (he:zI env) (h1:s.cost+1≤4000) (e:uc env n (payS 1 s) = .ok ((n',z),s')):Gos F s s' z:=by
 have hp:=wB h (n:=1) (by omega) h1;unfold uc at e;cases hg:getK n.name env with
 |none=>rw [hg] at e;cases e;exact hp
 |some v =>
  rw [hg] at e;have hv:=he.sz _ ((Zm he.nd).1 hg);obtain ⟨va,vz,vn⟩:=v;cases va with
  |none=>cases e;exact hp
  |some a =>
   simp only at e;split at e
   ·rename_i hc
    have hv':0≤vz∧vz≤4000:=hv;cases e;have g:=wB (hp.ok h) hv'.1 hc;exact ⟨g.l0,g.c1,hv'.1,by have:=g.cz;have:=hp.cz;omega,by have:=g.p;have:=hp.p;omega⟩
   ·cases e
theorem pf {F:Nat} {E:Nd→ISt→XR (Nd×Int)}:∀{ks:List Nd} {ps:List (ByteArray×Int)} {own own':IEnv} {s s':ISt},(∀ k n' z s s',k∈ks→StOk F s→E k s = .ok ((n',z),s')→Gos F s s' z)→StOk F s→zI own →
  jv E ps ks own s = .ok (own',s')→zI own'∧Gos F s s' 0
 | [],ps,own,own',s,s',_,h,ho,e=>by
  have e:Except.ok (own,s)=(Except.ok (own',s'):XR IEnv):=by cases ps<;>exact e
  cases e;exact ⟨ho,h.l0,h.c1,by omega,by omega,Qq _⟩
 |k :: ks,[],own,own',s,s',_,h,ho,e=>by
  cases e;exact ⟨ho,h.l0,h.c1,by omega,by omega,Qq _⟩
 |k :: ks,p :: ps,own,own',s,s',hE,h,ho,e=>by
  simp only [jv] at e;split at e
  ·cases e
  ·rename_i k' m s1 h1
   have g:=hE k k' m s s1 (zG ..) h h1;have hm:m≤4000:=by have:=g.cz;have:=g.c1;have:=h.c0;omega
   obtain ⟨h2,g2⟩:=pf (fun k n' z s s' hk=>hE k n' z s s' (zt _ hk)) (g.ok h) (ho.set (v:=⟨some k',m,⟨#[]⟩⟩) ⟨g.z0,hm⟩) e;exact ⟨h2,g2.l0,g2.c1,by omega,by have:=g.cz;have:=g.z0;have:=g2.cz;omega,by have:=g.p;have:=g2.p;omega⟩
def dueN (F:Nat) (bin:Bool) (i:Nat):Int:=if bin=true∧i≤1 then F else 0
theorem Qj (F:Nat) (bin:Bool) (i:Nat):0≤dueN F bin i:=by unfold dueN;split<;>omega
theorem Vs {F:Nat} {bin:Bool} {i:Nat} (h:¬(bin=true∧i=1)):dueN F bin i=dueN F bin (i+1):=by
 unfold dueN;by_cases hbb:bin=true
 ·by_cases h1:i=1
  ·exact absurd ⟨hbb,h1⟩ h
  ·by_cases h0:i≤1
   ·rw [if_pos ⟨hbb,h0⟩,if_pos ⟨hbb,by omega⟩]
   ·rw [if_neg (by omega),if_neg (by omega)]
 ·rw [if_neg (fun h=>hbb h.1),if_neg (fun h=>hbb h.1)]
theorem pg {F:Nat} {E:IEnv→Nd→ISt→XR (Nd×Int)} {R:IEnv→ByteArray→ISt→(IEnv×ByteArray)×ISt} {bin:Bool} (hR:∀ env nm s,0≤s.last→zI env→zI (R env nm s).1.1∧0≤(R env nm s).2.last∧(R env nm s).2.last≤s.last+(F:Int)∧(R env nm s).2.cost=s.cost) :
  ∀{ks:List Nd} {i:Nat} {env:IEnv} {nm nm':ByteArray} {s s':ISt} {ks':List Nd} {m:Int},(∀ env k n' z s s',k∈ks→StOk F s→zI env→E env k s = .ok ((n',z),s')→Gos F s s' z)→0≤s.last→0≤s.cost→s.cost≤4000→dueN F bin i≤pot F s→zI env →
  jl E R bin i env nm ks s = .ok ((nm',ks',m),s')→0≤s'.last∧s'.cost≤4000∧0≤m∧s.cost+m≤s'.cost∧pot F s-dueN F bin i≤pot F s'
 | [],i,env,nm,nm',s,s',ks',m,_,l0,c0,c1,hp,he,e=>by
  cases e;have:=Qj F bin i;exact ⟨l0,c1,by omega,by omega,by omega⟩
 |k :: ks,i,env,nm,nm',s,s',ks',m,hE,l0,c0,c1,hp,he,e=>by
  simp only [jl] at e;obtain ⟨r,hr⟩:∃ r,r=if bin=true∧i=1 then R env nm s else ((env,nm),s):=⟨_,rfl⟩
  rw [←hr] at e;have hr4:zI r.1.1∧0≤r.2.last∧r.2.cost=s.cost∧dueN F bin (i+1)≤pot F r.2∧pot F s-dueN F bin i≤pot F r.2-dueN F bin (i+1):=by
   by_cases hb:bin=true∧i=1
   ·rw [if_pos hb] at hr
    obtain ⟨a1,a2,a3,a4⟩:=hR env nm s l0 he;have d1:dueN F bin i=F:=if_pos ⟨hb.1,by omega⟩;have d2:dueN F bin (i+1)=0:=if_neg (by omega);subst hr;have hpp:pot F s-F≤pot F (R env nm s).2:=by unfold pot;rw [a4];omega
    rw [d1] at hp;rw [d1,d2];exact ⟨a1,a2,a4,by omega,by omega⟩
   ·rw [if_neg hb] at hr
    subst hr;have d':dueN F bin i=dueN F bin (i+1)∨(bin=true∧i=1):=by
     unfold dueN;by_cases hbb:bin=true
     ·by_cases h1:i=1
      ·exact .inr ⟨hbb,h1⟩
      ·left
       by_cases h0:i≤1
       ·rw [if_pos ⟨hbb,h0⟩,if_pos ⟨hbb,by omega⟩]
       ·rw [if_neg (by omega),if_neg (by omega)]
     ·left;rw [if_neg (fun h=>hbb h.1),if_neg (fun h=>hbb h.1)]
    have d'':dueN F bin i=dueN F bin (i+1):=d'.elim id fun h=>absurd h hb
    exact ⟨he,l0,rfl,by show _≤pot F s;omega,by show _≤pot F s-_;omega⟩
  obtain ⟨b1,b2,b3,b4,b5⟩:=hr4;split at e
  ·cases e
  ·rename_i k' m1 s1 h1
   have hst:StOk F r.2:=⟨b2,by omega,by omega,by have:=Qj F bin (i+1);omega⟩;have g:=hE r.1.1 k k' m1 r.2 s1 (zG ..) hst b1 h1;split at e
   ·cases e
   ·rename_i nm2 ks2 m2 s2 h2
    have:=pg hR (fun env k n' z s s' hk=>hE env k n' z s s' (zt _ hk)) g.l0 (by have:=g.cz;have:=g.z0;omega) g.c1 (by have:=g.p;omega) b1 h2;obtain ⟨q1,q2,q3,q4,q5⟩:=this;cases e;have:=g.cz;have:=g.z0;have:=g.p;exact ⟨q1,q2,by omega,by omega,by omega⟩
theorem vF (ts:TS) {es:List (ByteArray×Bool)} (hfr:Free ts es):∀(f:Nat) {env:IEnv} {n n':Nd} {body:Bool} {s s':ISt} {z:Int},StOk (qC ts es) s→zI env→expI ts es f env n body s = .ok ((n',z),s')→Gos (qC ts es) s s' z
 | 0,_,_,_,_,_,_,_,_,_,e=>by cases e
 |f+1,env,n,n',body,s,s',z,h,he,e=>by
  simp only [expI] at e;split at e
  ·rename_i hc
   have hp:=wB h (n:=1) (by omega) hc;split at e
   ·exact qeP h he hc e
   ·split at e
    ·split at e
     ·cases e
     ·rename_i p _
      ·obtain ⟨own,s1,h1,e⟩:=Vn e
       obtain ⟨ho,g1⟩:=pf (F:=qC ts es) (fun k n' z s s' _ hs hE=>vF ts hfr f hs he hE) (hp.ok h) .nil h1;have g2:=vF ts hfr f (g1.ok (hp.ok h)) ho e;exact ⟨g2.l0,g2.c1,g2.z0,by have:=g2.cz;have:=g1.cz;have:=hp.cz;omega,by have:=g2.p;have:=g1.p;have:=hp.p;omega⟩
    ··obtain ⟨⟨nm',ks',m⟩,s1,h1,e⟩:=Vn e
      cases e;have hd:dueN (qC ts es) (binB n.op) 0≤pot (qC ts es) (payS 1 s):=by
       rw [Zz];have:=h.p;unfold dueN;split<;>omega
      have:=pg (F:=qC ts es) (fun env nm s hl hv=>⟨Vp hv,Vq hfr hl⟩) (fun env k n' z s s' _ hs hv hE=>vF ts hfr f hs hv hE) hp.l0 (by have:=(hp.ok h).c0;exact this) hp.c1 hd he h1;obtain ⟨q1,q2,q3,q4,q5⟩:=this;have hd1:dueN (qC ts es) (binB n.op) 0≤(qC ts es:Nat):=by unfold dueN;split<;>omega
      rw [Zz] at q5;have q3':0≤(nm',ks',m).snd.snd:=q3;have q4':(payS 1 s).cost+(nm',ks',m).snd.snd≤s'.cost:=q4;exact ⟨q1,q2,by omega,by have:=hp.cz;omega,by omega⟩
  ·cases e
end Go.Proofs.YtcfopdccdeeleaaGreatDoor.YC


namespace Go.Proofs.YtcfopdccdeeleaaGreatDoor.YD
open Go Go.Ev Go.Proofs Go.Proofs.YtcfopdccdeeleaaGreatDoor YM YS YF P1 P2 Y1 Y2 Y3 Y4 Y5 Y6 Y7 Y8 Y9 Y10 Y11 Y12 Y13 Y14 Y15 Y16 YU YV YW YX YZ YA YB PA YC
theorem qeQ (p:Pd) (n:Nd):qt Tryz.prog 115 [.agg (cPd p),.ip (cNd n)] (aB (decide (p.name=n.name))):=by
 refine qSQ Tryz.call115 Tryz.func115 rfl {} ?_;by_cases h:p.name=n.name
 ·simp [go_sem,h]
  exact .hf _ (HF.sc _)
 ·simp [go_sem,h,zL h]
  exact .hf _ (HF.sc _)
def endE (ts:TS) (tb:Nat) (mu:Mu) (xb:Nat) (r:XR (Nd×Int)) (e:AEnd) (m:Mu):Prop:=
 match r with
 | .ok ((n,k),s)=>e = .ret (.tup [eNd n,aI k])∧m[xb]?=some (.arr (cIn ts tb s))∧But xb mu m
 | .error d=>e = .pan (jq d.1 d.2)∧But xb mu m
def IHE (ts : TS) (es : List (ByteArray × Bool)) (tb f : Nat) : Prop := ∀ (env : IEnv) (n : Nd) (body : Bool) (s : ISt) (mu : Mu) (xb : Nat), 4000 < s.cost + f → StOk (qC ts es) s → zI env → WfN n → yv ts n → mu[xb]? = some (.arr (cIn ts tb s)) → mu[tb]? = some (.mp (eSet es)) →
      qW Tryz.prog 70 [.ptr xb 0,eEnv env,eNd n,aB body] mu (endE ts tb mu xb (expI ts es f env n body s))
structure M0 (ts:TS) (es:List (ByteArray×Bool)) (tb:Nat) (mu:Mu) (xb:Nat) (n:Nd) (s:ISt) (M:Mu):Prop where
 len:M.length=mu.length+2
 x:M[xb]?=some (.arr (cIn ts tb s))
 t:M[tb]?=some (.mp (eSet es))
 n:M[mu.length]?=some (.arr (cNd n))
 r:M[mu.length+1]?=some (.arr [aI 0,aS ⟨#[]⟩,aI 0,.lst true [],aI 0])
 but:But xb mu M
theorem M0.of {ts:TS} {es:List (ByteArray×Bool)} {tb:Nat} {mu:Mu} {xb:Nat} {n:Nd} {s s':ISt} (hx:mu[xb]?=some (.arr (cIn ts tb s))) (ht:mu[tb]?=some (.mp (eSet es))) :
  M0 ts es tb mu xb n s' ((mu++[Cell.arr (cNd n),Cell.arr [aI 0,aS ⟨#[]⟩,aI 0,.lst true [],aI 0]]).set xb (.arr (cIn ts tb s'))):=by
 have hxl:xb<mu.length:=(qv.1 hx).1;have htl:tb<mu.length:=(qv.1 ht).1;have hne:tb≠xb:=fun e=>by rw [e,hx] at ht;cases ht
 refine ⟨by simp,zd (by simp;omega),?_,?_,?_,(But.app xb mu _).trans (But.setX xb _ _)⟩
 ·rw [qL (fun e=>hne e.symm),qz htl];exact ht
 ·rw [qL (by omega),zl (qB _)];simp
 ·rw [qL (by omega),zl (by omega)];simp
theorem qeR (ts:TS) (es:List (ByteArray×Bool)) (tb:Nat) (env:IEnv) (n:Nd) (body:Bool) (s:ISt) (mu:Mu) (xb:Nat) (hs:StOk (qC ts es) s) (he:zI env) (hx:mu[xb]?=some (.arr (cIn ts tb s))) (ht:mu[tb]?=some (.mp (eSet es))) (hop:n.op=1) :
  qW Tryz.prog 70 [.ptr xb 0,eEnv env,eNd n,aB body] mu (endE ts tb mu xb (if s.cost+1≤4000 then uc env n (payS 1 s) else .error (2,0))):=by
 have hs0:=hs.c0;have hs1:=hs.c1;refine qSW Tryz.call70 Tryz.func70 rfl { mt:=[6] } ?_;have hxl:xb<mu.length:=(qv.1 hx).1;simp [go_sem];refine qc.eff0 (payU ts tb s 1 ⟨by omega,by omega⟩ ⟨by omega,by omega⟩ (by rw [qz hxl];exact hx)) ?_ ?_
 ·rintro r m ⟨rfl,e⟩
  by_cases hc:s.cost+1≤4000
  ·rw [if_pos hc] at e ⊢
   cases e;have hM:=M0.of (s':=payS 1 s) (n:=n) hx ht;generalize hMe:(mu++[Cell.arr (cNd n),.arr [aI 0,aS ⟨#[]⟩,aI 0,.lst true [],aI 0]]).set xb (.arr (cIn ts tb (payS 1 s)))=M at *
   simp [go_sem,hM.n,hop];have hrep:=qd3 ts tb (payS 1 s) ⟨by show _≤s.cost+1;omega,by show s.cost+1≤_;omega⟩ env he.nd (fun e hm=>by have:=he.sz e hm;omega) n hM.x;generalize uc env n (payS 1 s)=Q at *
   have hMl:=hM.len;cases Q with
   |error d =>
    refine qc.eff0 hrep (by rintro r m ⟨e,_⟩;cases e) ?_;rintro r m ⟨e,hmo,hml⟩;cases e;simp [go_sem];exact ⟨rfl,hM.but.trans ⟨hml,hmo⟩⟩
   |ok q =>
    obtain ⟨⟨n',k'⟩,s'⟩:=q;refine qc.eff0 hrep ?_ (by rintro r m ⟨e,_⟩;cases e);rintro r m ⟨e,hmx,hmo,hml⟩;cases e;have hm1:m[mu.length+1]?=some (.arr [aI 0,aS ⟨#[]⟩,aI 0,.lst true [],aI 0]):=by rw [hmo _ (by omega) (by omega)];exact hM.r
    have hml1:mu.length+1<m.length:=by omega
    have hset:∀ c,(m.set (mu.length+1) c)[mu.length+1]?=some c:=fun c=>zd hml1
    simp [go_sem,hm1,hset,qr];exact ⟨rfl,by rw [qL (by omega)];exact hmx,(hM.but.trans ⟨hml,hmo⟩).setN (by omega) _⟩
  ·rw [if_neg hc] at e;cases e
 ·rintro r m ⟨rfl,e⟩
  by_cases hc:s.cost+1≤4000
  ·rw [if_pos hc] at e;cases e
  ·rw [if_neg hc] at e ⊢
   cases e;simp [go_sem];exact ⟨rfl,(But.app xb mu _).trans (But.setX xb _ _)⟩
theorem ph {mu:Mu} {b:Nat} {cs:List AV} (hb:mu[b]?=some (.arr cs)) (h:∀ c,c∈cs→HF c):Rd mu (.ptr b 0) (.ip cs):=
 .ptr b 0 cs cs hb (by simp) fun k x y hx hy=>by
  rw [Nat.zero_add] at hx;rw [hx] at hy;cases hy;exact .hf _ (h _ (ze hx))
abbrev AP:=Nat×Int×Nd
abbrev eAP (a:AP):AV := .agg [.ptr a.1 0,aI a.2.1,aS ⟨#[]⟩]
abbrev ivA (a:AP):IV:=⟨some a.2.2,a.2.1,⟨#[]⟩⟩
abbrev ownA (acc:List (ByteArray×AP)):IEnv:=acc.map fun e=>(e.1,ivA e.2)
theorem WD {κ α β:Type} [DecidableEq κ] (g:α→β) (k:κ) (v:α):∀ es:List (κ×α),(setK k v es).map (fun e=>(e.1,g e.2))=setK k (g v) (es.map fun e=>(e.1,g e.2))
 | []=>rfl
 |e :: es=>by
  simp only [setK,List.map_cons];split
  ·rfl
  ·rw [List.map_cons,WD g k v es]
theorem updAP {mu:Mu} {b:Nat} {es:List (ByteArray×AP)} (hm:mu[b]?=some (.mp (encK aS eAP es))) (nm:ByteArray) (v:AP) :
  jS Tryz.prog mu 129 (.mp b) (aS nm) (eAP v)=some (mu.set b (.mp (encK aS eAP (setK nm v es)))):=
 keyS.update (et:=181) (t:=129) (by simp [go_sem]) (mu:=mu) (b:=b) (venc:=eAP) (es:=es) hm (k:=nm) (v:=v) trivial (fun _ _=>trivial)
theorem pi {mu:Mu} {b:Nat} {acc:List (ByteArray×AP)} (hb:mu[b]?=some (.mp (encK aS eAP acc))) (hn:(acc.map Prod.fst).Nodup) (ha:∀ e,e∈acc→mu[e.2.1]?=some (.arr (cNd e.2.2.2))):Rd mu (.mp b) (eEnv (ownA acc)):=by
 have hn':((ownA acc).map Prod.fst).Nodup:=by
  have e:(ownA acc).map Prod.fst=acc.map Prod.fst:=by simp [ownA]
  rw [e];exact hn
 have get:∀(k:Nat) (x y:AV×AV),(encK aS eAP acc)[k]?=some x→(encK aS eIV (ownA acc))[k]?=some y→∃ e,e∈acc∧x=(aS e.1,eAP e.2)∧y=(aS e.1,eIV (ivA e.2)):=fun k x y hx hy=>by
  rw [zM,wb] at hx;obtain ⟨e,he,rfl⟩:=hx;rw [zM,zM,he] at hy;simp only [Option.map_some,Option.some.injEq] at hy;exact ⟨e,ze he,rfl,hy.symm⟩
 refine .ims _ _ _ id id (PIx.refl _) (WB hn') (.mp b _ _ hb (by simp) (fun k x y hx hy=>?_) (fun k x y hx hy=>?_))
 ·obtain ⟨e,he,rfl,rfl⟩:=get k x y hx hy
  exact .hf _ (HF.sc _)
 ·obtain ⟨e,he,rfl,rfl⟩:=get k x y hx hy
  refine .agg _ _ rfl fun k x y hx hy=>?_
  match k with
  | 0 =>
   simp at hx hy;subst hx;subst hy;exact ph (ha e he) (jb _)
  | 1=>simp at hx hy;subst hx;subst hy;exact .hf _ (HF.sc _)
  | 2=>simp at hx hy;subst hx;subst hy;exact .hf _ (HF.sc _)
  |k+3=>simp at hx
theorem qeS {ps:List Pd} {g:Pd→Bool} {p:Pd} (h:ps.find? g=some p):∃ i,∃ hi:i<ps.length,ps[i]=p∧idxI ps g=i:=by
 rw [List.find?_eq_some_iff_getElem] at h;obtain ⟨hg,i,hi,e,hj⟩:=h;refine ⟨i,hi,e,Qa hi (by rw [e];exact hg) fun j hjl hji=>by simpa using hj j hji⟩
theorem qeT (ts:TS) (h:okTS ts) (hb:∀ p,p∈ts.preds→WfN p.body∧yv ts p.body) (es:List (ByteArray×Bool)) (hF:qC ts es≤200000) (hfr:Free ts es) (tb f:Nat) (ih:IHE ts es tb f) (env:IEnv) (n:Nd) (body:Bool) (s:ISt) (mu:Mu) (xb:Nat)
  (hc:4000<s.cost+(f+1:Nat)) (hs:StOk (qC ts es) s) (he:zI env) (hw:WfN n) (hcl:yv ts n) (hx:mu[xb]?=some (.arr (cIn ts tb s))) (ht:mu[tb]?=some (.mp (eSet es))) (hop:n.op=47) :
  qW Tryz.prog 70 [.ptr xb 0,eEnv env,eNd n,aB body] mu (endE ts tb mu xb (expI ts es (f+1) env n body s)):=by
 have hs0:=hs.c0;have hs1:=hs.c1;generalize hR:expI ts es (f+1) env n body s=R;simp only [expI,hop] at hR;obtain ⟨p,hp,hplen⟩:=hcl n (Vo n) hop;rw [hp] at hR;refine qSW Tryz.call70 Tryz.func70 rfl { mt:=[6] } ?_;have hxl:xb<mu.length:=(qv.1 hx).1;have htl:tb<mu.length:=(qv.1 ht).1;simp [go_sem];refine qc.eff0 (payU ts tb s 1 ⟨by omega,by omega⟩ ⟨by omega,by omega⟩ (by rw [qz hxl];exact hx)) ?_ ?_
 ·rintro r m ⟨rfl,e⟩
  by_cases hcc:s.cost+1≤4000
  ·rw [if_pos hcc] at e hR
   cases e;have hM:=M0.of (s':=payS 1 s) (n:=n) hx ht;generalize hMe:(mu++[Cell.arr (cNd n),.arr [aI 0,aS ⟨#[]⟩,aI 0,.lst true [],aI 0]]).set xb (.arr (cIn ts tb (payS 1 s)))=M at *
   have hMl:=hM.len;simp [go_sem,hM.n,hop];refine qx.fz (FzQ.one (b:=mu.length) (d:=6) (x := .ip (cNd n)) ?_ ?_)
   ·simp [go_sem]
    exact ph (by rw [vE (by simp)];exact hM.n) (jb n)
   have hM1x:(cutM (fun j=>!(j == mu.length)) M 0)[xb]?=some (.arr (cIn ts tb (payS 1 s))):=by rw [vE (by simp;omega)];exact hM.x
   have hM1t:(cutM (fun j=>!(j == mu.length)) M 0)[tb]?=some (.mp (eSet es)):=by rw [vE (by simp;omega)];exact hM.t
   have hM1r:(cutM (fun j=>!(j == mu.length)) M 0)[mu.length+1]?=some (.arr [aI 0,aS ⟨#[]⟩,aI 0,.lst true [],aI 0]):=by rw [vE (by simp)];exact hM.r
   have hM1b:But xb mu (cutM (fun j=>!(j == mu.length)) M 0):=hM.but.cut fun i hi=>by simp;omega
   have hM1l:(cutM (fun j=>!(j == mu.length)) M 0).length=mu.length+2:=by rw [jQ];exact hMl
   simp only [qT];generalize cutM (fun j=>!(j == mu.length)) M 0=M1 at *
   refine qx.intro (by kernel_rfl) ?_;simp [go_sem,hM1x];obtain ⟨i,hi,hpi,hidx⟩:=qeS hp;have hfn:ju Tryz.prog (.fn (.func 115) [] [.ip (cNd n)]) ts.preds (fun x => .agg (cPd x)) (fun p=>decide (p.name=n.name)):=⟨_,_,_,rfl,fun p hp=>⟨_,qeQ p n,.cons (.hf (HF.agg (uy p))) (.cons (.hf (Yt n)) .nil)⟩⟩;refine qc.pure (Wb false ts.preds _ (fun p=>decide (p.name=n.name)) hfn (by have:=h.np;omega)) (.cons (.hf (ua _)) (.cons (.hf (HF.fn (by simp) (fun x hx=>by simp at hx;subst hx;exact Yt n))) .nil)) ?_;rw [hidx];have hpm:p∈ts.preds:=List.mem_of_find?_eq_some hp;obtain ⟨hbw,hbc⟩:=hb p hpm;have hkl:=hw.len;have hcells:=jt p;simp [go_sem,hM1x,hi,hpi,hcells];have hst1:StOk (qC ts es) (payS 1 s):=(wB hs (by omega) hcc).ok hs;have hR:vT (jv (fun k s=>expI ts es f env k body s) p.params n.kids [] (payS 1 s)) (fun own s'=>expI ts es f own p.body true s')=R:=by simpa using hR
   generalize hQ:jv (fun k s=>expI ts es f env k body s) p.params n.kids [] (payS 1 s)=Q at *
   refine qD.upK n.kids.length (fun k st=>∃(acc:List (ByteArray×AP)) (s2:ISt),st.tm 0 = .ptr xb 0∧st.tm 1=eEnv env∧st.tm 3=aB body∧st.tm 8 = .ptr (mu.length+1) 0∧st.tm 10 = .ptr (mu.length+2) 0∧st.tm 11 = .mp (mu.length+3)∧st.tm 52=lNd n.kids∧st.tm 53=aI n.kids.length∧st.tm 54=aI k ∧
    But xb mu st.mu∧mu.length+3<st.mu.length∧st.mu[xb]?=some (.arr (cIn ts tb s2))∧st.mu[mu.length+1]?=some (.arr [aI 0,aS ⟨#[]⟩,aI 0,.lst true [],aI 0])∧st.mu[mu.length+2]?=some (.arr (cPd p))∧st.mu[mu.length+3]?=some (.mp (encK aS eAP acc)) ∧
    (∀ e,e∈acc→mu.length+3<e.2.1∧e.2.1<st.mu.length∧st.mu[e.2.1]?=some (.arr (cNd e.2.2.2)))∧zI (ownA acc)∧(acc.map Prod.fst).Nodup∧StOk (qC ts es) s2∧s.cost+1≤s2.cost∧jv (fun k s=>expI ts es f env k body s) (p.params.drop k) (n.kids.drop k) (ownA acc) s2=Q) ?_ ?_
   ·refine ⟨[],payS 1 s,by simp [go_sem],by simp [go_sem],by simp [go_sem],by simp [go_sem],by simp [go_sem,hM1l],by simp [go_sem,hM1l],by simp [go_sem],by simp [go_sem],by simp [go_sem],?_,?_,?_,?_,?_,?_,by simp,.nil,by simp,hst1,by show _≤s.cost+1;omega,by simpa using hQ⟩
    all_goals simp only [qT]
    ·exact hM1b.trans (But.app xb M1 _)
    ·simp;omega
    ·rw [qz (by omega)];exact hM1x
    ·rw [qz (by omega)];exact hM1r
    ·rw [zl (by omega)];simp [hM1l]
    ·rw [zl (by omega)];simp [hM1l]
   ·rintro k st hk ⟨acc,s2,e0,e1,e3,e8,e10,e11,e52,e53,e54,hbut,hl,gx,gr,gp,gm,gacc,hown,hnd,hst,hcost,hI⟩
    have ht2:st.mu[tb]?=some (.mp (eSet es)):=by rw [hbut.same tb htl (fun e=>by rw [e,hx] at ht;cases ht)];exact ht
    by_cases hkl:k=n.kids.length
    ·subst hkl
     simp [go_sem,e0,e1,e3,e8,e10,e11,e52,e53,e54,gp];rw [List.drop_length,List.drop_of_length_le (by omega)] at hI;have hI:Q = .ok (ownA acc,s2):=hI.symm;rw [hI] at hR;have hR:expI ts es f (ownA acc) p.body true s2=R:=hR;have hbig:∀ i,i<mu.length+3→(cutM (fun i=>!decide (mu.length+3≤i)) st.mu 0)[i]?=st.mu[i]?:=fun i hi=>vE (by simp;omega)
     have hcall:=ih (ownA acc) p.body true s2 (cutM (fun i=>!decide (mu.length+3≤i)) st.mu 0) xb (by omega) hst hown hbw hbc (by rw [hbig _ (by omega)];exact gx) (by rw [hbig _ (by omega)];exact ht2);rw [hR] at hcall;have hcall:=qW.freeze (mu:=st.mu) (args:=[.ptr xb 0,.mp (mu.length+3),eNd p.body,aB true]) (args1:=[.ptr xb 0,eEnv (ownA acc),eNd p.body,aB true]) (fun i=>decide (mu.length+3≤i)) ⟨.inl rfl,.inr (pi (by rw [vE (by simp)];exact gm) hnd (fun e he=>by
      obtain ⟨a1,a2,a3⟩:=gacc e he;rw [vE (by simp;omega)];exact a3)),.inl rfl,.inl rfl,trivial⟩ hcall
     cases R with
     |error d =>
      refine qc.eff0 hcall (by rintro r m ⟨e,_⟩;cases e) ?_;rintro r m ⟨e,hmb⟩;cases e;simp [go_sem];exact ⟨rfl,(hbut.cut fun i hi=>by simp;omega).trans hmb⟩
     |ok q =>
      obtain ⟨⟨n',k'⟩,s'⟩:=q;refine qc.eff0 hcall ?_ (by rintro r m ⟨e,_⟩;cases e);rintro r m ⟨e,hmx,hmb⟩;cases e;have hml:=hmb.len;rw [jQ] at hml;have hml1:mu.length+1<m.length:=by omega
      have hm1:m[mu.length+1]?=some (.arr [aI 0,aS ⟨#[]⟩,aI 0,.lst true [],aI 0]):=by rw [hmb.same _ (by rw [jQ];omega) (by omega),hbig _ (by omega)];exact gr
      have hset:∀ c,(m.set (mu.length+1) c)[mu.length+1]?=some c:=fun c=>zd hml1
      simp [go_sem,e0,e1,e3,e8,e10,e11,e52,e53,e54,hm1,hset,qr];refine ⟨rfl,by rw [qL (by omega)];exact hmx,?_⟩;exact ((hbut.cut fun i hi=>by simp;omega).trans hmb).setN (by omega) _
    ·have hlt:k<n.kids.length:=by omega
     have w1:IntKind.i64.wrap ((k:Int)+1)=(k:Int)+1:=qy (by omega) (by omega);have hltp:k<p.params.length:=by omega
     rw [zA hlt,zA hltp] at hI;simp only [jv] at hI;simp [go_sem,e0,e1,e3,e8,e10,e11,e52,e53,e54,hlt,qr];have hpush:∀ i,i<st.mu.length→(st.mu++[Cell.arr (cNd n.kids[k])])[i]?=st.mu[i]?:=fun i hi=>qz hi
     have hkm:n.kids[k]∈n.kids:=qJ hlt;have hcall:=ih env n.kids[k] body s2 (st.mu++[Cell.arr (cNd n.kids[k])]) xb (by omega) hst he (hw.kid hkm) (hcl.kid hkm) (by rw [hpush _ (by omega)];exact gx) (by rw [hpush _ (by omega)];exact ht2);have hgo:∀{n' z s'},expI ts es f env n.kids[k] body s2 = .ok ((n',z),s')→Gos (qC ts es) s2 s' z:=fun e=>vF ts hfr f hst he e
     generalize hE:expI ts es f env n.kids[k] body s2=E at *
     cases E with
     |error d =>
      have hI:Q = .error d:=hI.symm;rw [hI] at hR;have hR:R = .error d:=hR.symm;subst hR;refine qc.eff0 hcall (by rintro r m ⟨e,_⟩;cases e) ?_;rintro r m ⟨e,hmb⟩;cases e;simp [go_sem];exact ⟨rfl,hbut.trans ((But.app xb st.mu _).trans hmb)⟩
     |ok q =>
      obtain ⟨⟨n',k'⟩,s'⟩:=q;have hg:=hgo rfl;simp only at hI;refine qc.eff0 hcall ?_ (by rintro r m ⟨e,_⟩;cases e);rintro r m ⟨e,hmx,hmb⟩;cases e;have hml:=hmb.len;simp only [zr,List.length_cons,List.length_nil] at hml;have hold:∀ i,i<st.mu.length→i≠xb→m[i]?=st.mu[i]?:=fun i hi hne=>by rw [hmb.same i (by simp;omega) hne,hpush i hi]
      have hmp:∀ l,(m++l)[mu.length+2]?=some (.arr (cPd p)):=fun l=>by rw [qz (by omega),hold _ (by omega) (by omega)];exact gp
      have hmm:∀ l,(m++l)[mu.length+3]?=some (.mp (encK aS eAP acc)):=fun l=>by rw [qz (by omega),hold _ (by omega) (by omega)];exact gm
      have hu:=fun l=>updAP (hmm l) p.params[k].1 (m.length,k',n')
      simp [go_sem,e0,e1,e3,e8,e10,e11,e52,e53,e54,qr,hmp,hltp];refine OptK.intro _ (hu _) ?_;generalize hN:(m++[Cell.arr (cNd n')]).set (mu.length+3) (.mp (encK aS eAP (setK p.params[k].1 (m.length,k',n') acc)))=N;have hNl:N.length=m.length+1:=by rw [←hN];simp
      have hNo:∀ i,i<m.length→i≠mu.length+3→N[i]?=m[i]?:=fun i h1 h2=>by rw [←hN,qL (by omega),qz h1]
      have hNm:N[mu.length+3]?=some (.mp (encK aS eAP (setK p.params[k].1 (m.length,k',n') acc))):=by rw [←hN,zd (by simp;omega)]
      have hNa:N[m.length]?=some (.arr (cNd n')):=by rw [←hN,qL (by omega),zl (qB _)];simp
      simp [go_sem,e0,e1,e3,e8,e10,e11,e52,e53,e54,w1];refine ⟨hlt,Keep.mk' ?_⟩;have hk4:k'≤4000:=by have:=hg.cz;have:=hg.c1;have:=hst.c0;omega
      refine ⟨setK p.params[k].1 (m.length,k',n') acc,s',by simp [go_sem,e0],by simp [go_sem,e1],by simp [go_sem,e3],by simp [go_sem,e8],by simp [go_sem,e10],by simp [go_sem,e11],by simp [go_sem,e52],by simp [go_sem,e53],by simp [go_sem],?_,?_,?_,?_,?_,?_,?_,?_,uT hnd,hg.ok hst,by have:=hg.cz;have:=hg.z0;omega,?_⟩
      all_goals try simp only [qT]
      ·refine ⟨by have:=hbut.len;omega,fun i h1 h2=>?_⟩
       rw [hNo i (by omega) (by omega),hold i (by omega) h2];exact hbut.same i h1 h2
      ·omega
      ·rw [hNo _ (by omega) (by omega)];exact hmx
      ·rw [hNo _ (by omega) (by omega),hold _ (by omega) (by omega)];exact gr
      ·rw [hNo _ (by omega) (by omega),hold _ (by omega) (by omega)];exact gp
      ·exact hNm
      ·intro e he
       rcases (wA hnd).1 he with rfl | ⟨he,_⟩
       ·exact ⟨by show _<m.length;omega,by show m.length<_;omega,hNa⟩
       ·obtain ⟨a1,a2,a3⟩:=gacc e he
        exact ⟨a1,by omega,by rw [hNo _ (by omega) (by omega),hold _ (by omega) (by omega)];exact a3⟩
      ·unfold ownA
       rw [WD (fun a:AP=>ivA a)];exact hown.set ⟨hg.z0,hk4⟩
      ·unfold ownA
       rw [WD (fun a:AP=>ivA a)];exact hI
  ·rw [if_neg hcc] at e;cases e
 ·rintro r m ⟨rfl,e⟩
  by_cases hcc:s.cost+1≤4000
  ·rw [if_pos hcc] at e;cases e
  ·rw [if_neg hcc] at e hR
   cases e;subst hR;simp [go_sem];exact ⟨rfl,(But.app xb mu _).trans (But.setX xb _ _)⟩
theorem Vt (op:Int):decide (op=15∨op=45∨op=46)=binB op:=by
 unfold binB;by_cases h1:op=15<;>by_cases h2:op=45<;>by_cases h3:op=46<;>simp [h1,h2,h3]
theorem wC {lo sz:Nat} {mu mu':Mu} {av:AV} {xs:List (List AV)} (h:OwnF lo mu sz av xs) (hl:lo≤mu'.length) (hs:∀ i,lo≤i→i<mu.length→mu'[i]?=mu[i]?):OwnF lo mu' sz av xs:=by
 obtain ⟨ho,hb,_⟩:=h;refine ⟨?_,hb,hl⟩;rcases ho with rfl | ⟨b,rfl,hc⟩
 ·exact .inl rfl
 ·exact .inr ⟨b,rfl,by rw [hs b (hb b _ _ _ rfl) (qv.1 hc).1];exact hc⟩
theorem Yz (l:List Nd):zC 5 (l.map cNd):=fun r hr=>by
 obtain ⟨n,_,rfl⟩:=qE.1 hr;exact ⟨Zi n,Yj n⟩
theorem jY {mu:Mu} {lo:Nat} {s:AV} {xs:List Nd} {k:Nd} {K:AV→Mu→Prop} (ho:OwnF lo mu 5 s (xs.map cNd)) (hl:xs.length≤100000) (kk:∀ av mu',OwnF lo mu' 5 av ((xs++[k]).map cNd)→(∀ i,i<lo→mu'[i]?=mu[i]?)→K av mu') :
  zo Tryz.prog mu #[29,29] s (.lst true [cNd k]) K:=by
 refine zo.ownF (lo:=lo) (e:=31) (sz:=5) (bt:=64) (zv := .agg [aI 0,aS ⟨#[]⟩,aI 0,.lst true [],aI 0]) (xs:=xs.map cNd) (ys:=[cNd k]) (by simp [go_sem]) (by simp [go_sem]) (by simp [go_sem]) rfl rfl (by omega) (by omega) ho (by simp [zf]) (Yz xs) (Yz [k]) (by simp;omega) ?_;intro av mu' h h2;exact kk av mu' (by rw [List.map_append];exact h) h2
theorem qeU (ts:TS) (h:okTS ts) (es:List (ByteArray×Bool)) (hF:qC ts es≤200000) (hfr:Free ts es) (tb f:Nat) (ih:IHE ts es tb f) (env:IEnv) (n:Nd) (body:Bool) (s:ISt) (mu:Mu) (xb:Nat)
  (hc:4000<s.cost+(f+1:Nat)) (hs:StOk (qC ts es) s) (he:zI env) (hw:WfN n) (hcl:yv ts n) (hx:mu[xb]?=some (.arr (cIn ts tb s))) (ht:mu[tb]?=some (.mp (eSet es))) (h1:¬n.op=1) (h47:¬n.op=47) :
  qW Tryz.prog 70 [.ptr xb 0,eEnv env,eNd n,aB body] mu (endE ts tb mu xb (expI ts es (f+1) env n body s)):=by
 have hs0:=hs.c0;have hs1:=hs.c1;have hxl:xb<mu.length:=(qv.1 hx).1;have htl:tb<mu.length:=(qv.1 ht).1;have hne:tb≠xb:=fun e=>by rw [e,hx] at ht;cases ht
 generalize hR:expI ts es (f+1) env n body s=R;simp only [expI,h1,h47,if_false] at hR;refine qW.give ?_;refine qSW Tryz.call70 Tryz.func70 rfl { mt:=[6] } ?_;simp [go_sem];refine qc.eff0 (payU ts tb s 1 ⟨by omega,by omega⟩ ⟨by omega,by omega⟩ (by rw [qz hxl];exact hx)) ?_ ?_
 ·rintro r m ⟨rfl,e⟩
  by_cases hcc:s.cost+1≤4000
  ·rw [if_pos hcc] at e hR
   cases e;have hM:=M0.of (s':=payS 1 s) (n:=n) hx ht;generalize hMe:(mu++[Cell.arr (cNd n),.arr [aI 0,aS ⟨#[]⟩,aI 0,.lst true [],aI 0]]).set xb (.arr (cIn ts tb (payS 1 s)))=M at *
   have hMl:=hM.len;have hkl:=hw.len;have hst1:StOk (qC ts es) (payS 1 s):=(wB hs (by omega) hcc).ok hs;have hset:∀ c,(M.set mu.length c)[mu.length]?=some c:=fun c=>zd (by omega)
   have hcn:=yk n;simp [go_sem,hM.n,h1,h47,hcn,hset];refine qD.upK n.kids.length (fun k st=>∃(acc:List Nd) (env1:IEnv) (nm1:ByteArray) (s2:ISt) (av:AV) (z:Int),st.tm 0 = .ptr xb 0∧st.tm 1=eEnv env1∧st.tm 3=aB body∧st.tm 6 = .ptr mu.length 0∧st.tm 8 = .ptr (mu.length+1) 0∧st.tm 17=aI z∧st.tm 87=lNd n.kids∧st.tm 88=aI n.kids.length∧st.tm 89=aI k ∧
    But xb mu st.mu∧st.mu[xb]?=some (.arr (cIn ts tb s2))∧st.mu[mu.length+1]?=some (.arr [aI 0,aS ⟨#[]⟩,aI 0,.lst true [],aI 0])∧st.mu[mu.length]?=some (.arr [aI n.op,aS nm1,aI n.n,av,aI n.pos])∧OwnF (mu.length+2) st.mu 5 av (acc.map cNd)∧zI env1∧acc.length=k ∧
    0≤s2.last∧0≤s2.cost∧s2.cost≤4000∧dueN (qC ts es) (binB n.op) k≤pot (qC ts es) s2∧s.cost+1≤s2.cost∧1≤z∧z≤s2.cost-s.cost ∧
    vT (jl (fun env k s=>expI ts es f env k body s) (fun env nm s=>renI ts es env nm body s) (binB n.op) k env1 nm1 (n.kids.drop k) s2) (fun r s' => .ok ((.mk n.op r.1 n.n (acc++r.2.1) n.pos,z+r.2.2),s'))=R) ?_ ?_
   ·refine ⟨[],env,n.name,payS 1 s,.lst true [],1,by simp [go_sem],by simp [go_sem],by simp [go_sem],by simp [go_sem],by simp [go_sem],by simp [go_sem],by simp [go_sem],by simp [go_sem],by simp [go_sem],?_,?_,?_,?_,?_,he,rfl,hst1.l0,hst1.c0,hst1.c1,?_,by show _≤s.cost+1;omega,by omega,by show _≤s.cost+1-_;omega,by simpa using hR⟩
    all_goals try simp only [qT]
    ·exact hM.but.setN (qB _) _
    ·rw [qL (by omega)];exact hM.x
    ·rw [qL (by omega)];exact hM.r
    ·exact hset _
    ·exact OwnF.nil (by simp;omega)
    ·rw [Zz];have:=hs.p;unfold dueN;split<;>omega
   ·rintro k st hk ⟨acc,env1,nm1,s2,av,z,e0,e1,e3,e6,e8,e17,e87,e88,e89,hbut,gx,gr,gn,go,hev,hal,hl0,hc0,hc1,hdue,hcost,hz1,hz2,hI⟩
    have gt:st.mu[tb]?=some (.mp (eSet es)):=by rw [hbut.same tb htl hne];exact ht
    have hstl:mu.length+2≤st.mu.length:=go.2.2;by_cases hkl:k=n.kids.length
    ·subst hkl
     have hcc1:=go.cells;have hon1:=go.one;have hset1:∀ c,(st.mu.set (mu.length+1) c)[mu.length+1]?=some c:=fun c=>zd (by omega)
     rw [List.drop_length] at hI;have hI:R = .ok ((.mk n.op nm1 n.n acc n.pos,z),s2):=by rw [←hI];simp [jl,vT]
     simp [go_sem,e0,e1,e3,e6,e8,e17,e87,e88,e89,gn,gr,hcc1,hon1,hset1];rw [hI];have hml:(st.mu.set (mu.length+1) (.arr [aI n.op,aS nm1,aI n.n,av,aI n.pos])).length=st.mu.length:=by simp
     refine .inr ⟨fun i=>decide (mu.length+2≤i),.tup [eNd (.mk n.op nm1 n.n acc n.pos),aI z],.rd _ _ (.tup _ _ rfl fun k x y hx hy=>?_),rfl,?_,?_⟩
     ·match k with
      | 0 =>
       simp at hx hy;subst hx;subst hy;have ecn:eNd (.mk n.op nm1 n.n acc n.pos) = .agg [aI n.op,aS nm1,aI n.n,.lst false (acc.map cNd),aI n.pos]:=by
        show AV.agg (cNd _)=_;rw [yk];rfl
       rw [ecn];refine .agg _ _ rfl fun k x y hx hy=>?_
       match k with
       | 0=>simp at hx hy;subst hx;subst hy;exact .hf _ (HF.sc _)
       | 1=>simp at hx hy;subst hx;subst hy;exact .hf _ (HF.sc _)
       | 2=>simp at hx hy;subst hx;subst hy;exact .hf _ (HF.sc _)
       | 3 =>
        simp at hx hy;subst hx;subst hy;exact Vc (go.set (by omega)) (Yz acc).ok fun r hr c hc=>by
         obtain ⟨x,_,rfl⟩:=qE.1 hr;exact jb x c hc
       | 4=>simp at hx hy;subst hx;subst hy;exact .hf _ (HF.sc _)
       |k+5=>simp at hx
      | 1=>simp at hx hy;subst hx;subst hy;exact .hf _ (HF.sc _)
      |k+2=>simp at hx
     ·rw [vE (by simp;omega),qL (by omega)];exact gx
     ·exact (hbut.setN (by omega) _).cut fun i hi=>by simp;omega
    ·have hlt:k<n.kids.length:=by omega
     have w1:IntKind.i64.wrap ((k:Int)+1)=(k:Int)+1:=qy (by omega) (by omega);have w2:IntKind.i64.wrap 2=2:=rfl;rw [zA hlt] at hI;simp only [jl] at hI;have hpush:∀(l:List Cell) (i:Nat),i<st.mu.length→(st.mu++l)[i]?=st.mu[i]?:=fun l i hi=>qz hi
     have gn1:∀ l,(st.mu++l)[mu.length]?=some (.arr [aI n.op,aS nm1,aI n.n,av,aI n.pos]):=fun l=>by rw [hpush l _ (by omega)];exact gn
     have hcc1:=go.cells;have hon1:=go.one;by_cases hb:binB n.op=true∧k=1
     ·obtain ⟨hb1',rfl⟩:=hb
      rw [if_pos ⟨hb1',rfl⟩] at hI;have hlt1:(1:Int)<n.kids.length:=by omega
      simp [go_sem,hlt1,e0,e1,e3,e6,e8,e17,e87,e88,e89,hlt,gn1,qr];have hbu:=YX.UQ n.op;rw [Vt,hb1'] at hbu;refine qc.pure hbu (.cons (.hf (HF.sc _)) .nil) ?_;have hlast:=StOk.last (F:=qC ts es) ⟨hl0,hc0,hc1,by have:=Qj (qC ts es) (binB n.op) 1;omega⟩;have hren:=WC ts h s2 es ⟨hl0,by omega⟩ tb (hfr _ hl0) env1 hev.nd nm1 body (mu:=st.mu++[Cell.arr (cNd n.kids[1])]) (xb:=xb) (by rw [hpush _ _ (by omega)];exact gx) (by rw [hpush _ _ (by omega)];exact gt);have hrs:=Vq (env:=env1) (nm:=nm1) (body:=body) hfr hl0;have hre:=Vp (ts:=ts) (es:=es) (nm:=nm1) (body:=body) (s:=s2) hev;generalize renI ts es env1 nm1 body s2=r at *
      obtain ⟨⟨env2,nm2⟩,s3⟩:=r;simp only at hrs hre hI;simp [go_sem,e0,e1,e3,e6,e8,e17,e87,e88,e89,hlt,gn1,qr];refine qc.eff0 hren ?_ (by rintro r m ⟨e,_⟩;cases e);rintro r m1 ⟨e,hb1,hx1⟩;cases e;have hml1:=hb1.len;simp only [zr,List.length_cons,List.length_nil] at hml1;have gn2:m1[mu.length]?=some (.arr [aI n.op,aS nm1,aI n.n,av,aI n.pos]):=by rw [hb1.same _ (by simp;omega) (by omega)];exact gn1 _
      have gr2:m1[mu.length+1]?=some (.arr [aI 0,aS ⟨#[]⟩,aI 0,.lst true [],aI 0]):=by rw [hb1.same _ (by simp;omega) (by omega),hpush _ _ (by omega)];exact gr
      have gk2:m1[st.mu.length]?=some (.arr (cNd n.kids[1])):=by rw [hb1.same _ (by simp) (by omega),zl (qB _)];simp
      have gt2:m1[tb]?=some (.mp (eSet es)):=by rw [hb1.same _ (by simp;omega) hne,hpush _ _ (by omega)];exact gt
      have go2:OwnF (mu.length+2) m1 5 av (acc.map cNd):=wC go (by omega) fun i q1 q2=>by rw [hb1.same i (by simp;omega) (by omega),hpush _ _ q2]
      have hM2g:∀ c i,i≠mu.length→(m1.set mu.length c)[i]?=m1[i]?:=fun c i hi=>qL (fun e=>hi e.symm)
      have hk2:∀ c,(m1.set mu.length c)[st.mu.length]?=some (.arr (cNd n.kids[1])):=fun c=>by rw [hM2g _ _ (by omega)];exact gk2
      simp [go_sem,e0,e1,e3,e6,e8,e17,e87,e88,e89,hlt,gn2,hk2,qr];generalize hM2:m1.set mu.length (.arr [aI n.op,aS nm2,aI n.n,av,aI n.pos])=M2;have hM2l:st.mu.length+1≤M2.length:=by rw [←hM2];simp;omega
      have g2x:M2[xb]?=some (.arr (cIn ts tb s3)):=by rw [←hM2,hM2g _ _ (by omega)];exact hx1
      have g2t:M2[tb]?=some (.mp (eSet es)):=by rw [←hM2,hM2g _ _ (by omega)];exact gt2
      have g2n:M2[mu.length]?=some (.arr [aI n.op,aS nm2,aI n.n,av,aI n.pos]):=by rw [←hM2];exact zd (by omega)
      have g2r:M2[mu.length+1]?=some (.arr [aI 0,aS ⟨#[]⟩,aI 0,.lst true [],aI 0]):=by rw [←hM2,hM2g _ _ (by omega)];exact gr2
      have g2o:OwnF (mu.length+2) M2 5 av (acc.map cNd):=by rw [←hM2];exact go2.set (by omega)
      have g2b:But xb mu M2:=by
       rw [←hM2];exact (hbut.trans ((But.app xb st.mu _).trans hb1)).setN (qB _) _
      have hdd:dueN (qC ts es) (binB n.op) 1=(qC ts es:Nat):=if_pos ⟨hb1',by omega⟩;have hd0:dueN (qC ts es) (binB n.op) (1+1)=0:=if_neg (by omega);have hpp:pot (qC ts es) s2-(qC ts es:Nat)≤pot (qC ts es) s3:=by unfold pot;rw [hrs.2.2];omega
      have hst3:StOk (qC ts es) s3:=⟨hrs.1,by rw [hrs.2.2];exact hc0,by rw [hrs.2.2];exact hc1,by omega⟩;have hd3:dueN (qC ts es) (binB n.op) (1+1)≤pot (qC ts es) s3:=by omega
      have hcost3:s.cost+1≤s3.cost:=by rw [hrs.2.2];exact hcost
      have hz3:z≤s3.cost-s.cost:=by rw [hrs.2.2];exact hz2
      have hev2:zI env2:=hre;have et1:True:=trivial;have hkm:n.kids[1]∈n.kids:=qJ hlt;have hcall:=ih env2 n.kids[1] body s3 M2 xb (by omega) hst3 hev2 (hw.kid hkm) (hcl.kid hkm) g2x g2t;have hgo:∀{n' z s'},expI ts es f env2 n.kids[1] body s3 = .ok ((n',z),s')→Gos (qC ts es) s3 s' z:=fun e=>vF ts hfr f hst3 hev2 e
      generalize hE:expI ts es f env2 n.kids[1] body s3=E at *
      cases E with
      |error d =>
       have hI:R = .error d:=hI.symm;subst hI;refine qc.eff0 hcall (by rintro r m ⟨e,_⟩;cases e) ?_;rintro r m ⟨e,hmb⟩;cases e;simp [go_sem];exact ⟨rfl,g2b.trans hmb⟩
      |ok q =>
       obtain ⟨⟨n',k'⟩,s'⟩:=q;have hg:=hgo rfl;simp only at hI;refine qc.eff0 hcall ?_ (by rintro r m ⟨e,_⟩;cases e);rintro r m ⟨e,hmx,hmb⟩;cases e;have hml:=hmb.len;have hmn:∀ l,(m++l)[mu.length]?=some (.arr [aI n.op,aS nm2,aI n.n,av,aI n.pos]):=fun l=>by rw [qz (by omega),hmb.same _ (by omega) (by omega)];exact g2n
       have hcc:=g2o.cells;have hon:=g2o.one;have hsz:IntKind.i64.wrap (z+k')=z+k':=qy (by have:=hg.z0;omega) (by have:=hg.cz;have:=hg.c1;omega);have ho3:OwnF (mu.length+2) (m++[Cell.arr (cNd n')]) 5 av (acc.map cNd):=wC g2o (by simp;omega) fun i h1 h2=>by rw [qz (by omega),hmb.same i (by omega) (by omega)]
       simp [go_sem,e0,e3,e6,e8,e17,e87,e88,e89,hmn,hcc,hon,hsz,qr];refine jY ho3 (by omega) fun av' m' ho' hm'=>?_
       have hlm:=ho'.2.2;have hmn':m'[mu.length]?=some (.arr [aI n.op,aS nm2,aI n.n,av,aI n.pos]):=by rw [hm' _ (by omega)];exact hmn _
       have hcc':=ho'.cells;have hon':=ho'.one;simp [go_sem,e0,e3,e6,e8,e17,e87,e88,e89,hmn',hcc',hon',hsz,w1,w2,qr];refine ⟨hlt,Keep.mk' ?_⟩;refine ⟨acc++[n'],env2,nm2,s',av',z+k',by simp [go_sem,e0],by simp [go_sem,et1],by simp [go_sem,e3],by simp [go_sem,e6],by simp [go_sem,e8],by simp [go_sem],by simp [go_sem,e87],by simp [go_sem,e88],by simp [go_sem],?_,?_,?_,?_,?_,hev2,by simp;omega,hg.l0,by have:=hg.cz;have:=hg.z0;omega,hg.c1,Int.le_trans hd3 hg.p,by have:=hg.cz;have:=hg.z0;omega,by have:=hg.z0;omega,by have:=hg.cz;omega,?_⟩
       all_goals try simp only [qT]
       ·refine ⟨by simp;omega,fun i h1 h2=>?_⟩
        rw [qL (by omega),hm' i (by omega),qz (by omega),hmb.same i (by omega) h2];exact g2b.same i h1 h2
       ·rw [qL (by omega),hm' _ (by omega),qz (by omega)];exact hmx
       ·rw [qL (by omega),hm' _ (by omega),qz (by omega),hmb.same _ (by omega) (by omega)];exact g2r
       ·exact zd (by omega)
       ·exact ho'.set (by omega)
       ·rw [←hI]
        generalize jl (fun env k s=>expI ts es f env k body s) (fun env nm s=>renI ts es env nm body s) (binB n.op) (1+1) env2 nm2 (n.kids.drop (1+1)) s'=W;cases W with
        |error e=>rfl
        |ok q=>simp [vT,Int.add_assoc]
     ·rw [if_neg hb] at hI
      by_cases hk1:k=1
      ·subst hk1
       have hb1:binB n.op=false:=by simpa using hb
       have hlt1:(1:Int)<n.kids.length:=by omega
       simp [go_sem,hlt1,e0,e1,e3,e6,e8,e17,e87,e88,e89,hlt,gn1,qr];have hbu:=YX.UQ n.op;rw [Vt,hb1] at hbu;refine qc.pure hbu (.cons (.hf (HF.sc _)) .nil) ?_;simp [go_sem,e0,e1,e3,e6,e8,e17,e87,e88,e89,hlt,gn1,qr];have hM2l:st.mu.length+1≤(st.mu++[Cell.arr (cNd n.kids[1])]).length:=by simp
       have g2x:(st.mu++[Cell.arr (cNd n.kids[1])])[xb]?=some (.arr (cIn ts tb s2)):=by rw [hpush _ _ (by omega)];exact gx
       have g2t:(st.mu++[Cell.arr (cNd n.kids[1])])[tb]?=some (.mp (eSet es)):=by rw [hpush _ _ (by omega)];exact gt
       have g2n:=gn1 [Cell.arr (cNd n.kids[1])];have g2r:(st.mu++[Cell.arr (cNd n.kids[1])])[mu.length+1]?=some (.arr [aI 0,aS ⟨#[]⟩,aI 0,.lst true [],aI 0]):=by rw [hpush _ _ (by omega)];exact gr
       have g2o:OwnF (mu.length+2) (st.mu++[Cell.arr (cNd n.kids[1])]) 5 av (acc.map cNd):=wC go (by omega) fun i q1 q2=>hpush _ _ q2
       have g2b:But xb mu (st.mu++[Cell.arr (cNd n.kids[1])]):=hbut.trans (But.app xb st.mu _);have hst3:StOk (qC ts es) s2:=⟨hl0,hc0,hc1,by have:=Qj (qC ts es) (binB n.op) 1;omega⟩;have hd3:dueN (qC ts es) (binB n.op) (1+1)≤pot (qC ts es) s2:=by rw [←Vs hb];exact hdue
       have hcost3:=hcost;have hz3:=hz2;have hev2:=hev;have et1:=e1;generalize st.mu++[Cell.arr (cNd n.kids[1])]=M2 at *
       have hkm:n.kids[1]∈n.kids:=qJ hlt;have hcall:=ih env1 n.kids[1] body s2 M2 xb (by omega) hst3 hev2 (hw.kid hkm) (hcl.kid hkm) g2x g2t;have hgo:∀{n' z s'},expI ts es f env1 n.kids[1] body s2 = .ok ((n',z),s')→Gos (qC ts es) s2 s' z:=fun e=>vF ts hfr f hst3 hev2 e
       generalize hE:expI ts es f env1 n.kids[1] body s2=E at *
       cases E with
       |error d =>
        have hI:R = .error d:=hI.symm;subst hI;refine qc.eff0 hcall (by rintro r m ⟨e,_⟩;cases e) ?_;rintro r m ⟨e,hmb⟩;cases e;simp [go_sem];exact ⟨rfl,g2b.trans hmb⟩
       |ok q =>
        obtain ⟨⟨n',k'⟩,s'⟩:=q;have hg:=hgo rfl;simp only at hI;refine qc.eff0 hcall ?_ (by rintro r m ⟨e,_⟩;cases e);rintro r m ⟨e,hmx,hmb⟩;cases e;have hml:=hmb.len;have hmn:∀ l,(m++l)[mu.length]?=some (.arr [aI n.op,aS nm1,aI n.n,av,aI n.pos]):=fun l=>by rw [qz (by omega),hmb.same _ (by omega) (by omega)];exact g2n
        have hcc:=g2o.cells;have hon:=g2o.one;have hsz:IntKind.i64.wrap (z+k')=z+k':=qy (by have:=hg.z0;omega) (by have:=hg.cz;have:=hg.c1;omega);have ho3:OwnF (mu.length+2) (m++[Cell.arr (cNd n')]) 5 av (acc.map cNd):=wC g2o (by simp;omega) fun i h1 h2=>by rw [qz (by omega),hmb.same i (by omega) (by omega)]
        simp [go_sem,e0,e3,e6,e8,e17,e87,e88,e89,hmn,hcc,hon,hsz,qr];refine jY ho3 (by omega) fun av' m' ho' hm'=>?_
        have hlm:=ho'.2.2;have hmn':m'[mu.length]?=some (.arr [aI n.op,aS nm1,aI n.n,av,aI n.pos]):=by rw [hm' _ (by omega)];exact hmn _
        have hcc':=ho'.cells;have hon':=ho'.one;simp [go_sem,e0,e3,e6,e8,e17,e87,e88,e89,hmn',hcc',hon',hsz,w1,w2,qr];refine ⟨hlt,Keep.mk' ?_⟩;refine ⟨acc++[n'],env1,nm1,s',av',z+k',by simp [go_sem,e0],by simp [go_sem,et1],by simp [go_sem,e3],by simp [go_sem,e6],by simp [go_sem,e8],by simp [go_sem],by simp [go_sem,e87],by simp [go_sem,e88],by simp [go_sem],?_,?_,?_,?_,?_,hev2,by simp;omega,hg.l0,by have:=hg.cz;have:=hg.z0;omega,hg.c1,Int.le_trans hd3 hg.p,by have:=hg.cz;have:=hg.z0;omega,by have:=hg.z0;omega,by have:=hg.cz;omega,?_⟩
        all_goals try simp only [qT]
        ·refine ⟨by simp;omega,fun i h1 h2=>?_⟩
         rw [qL (by omega),hm' i (by omega),qz (by omega),hmb.same i (by omega) h2];exact g2b.same i h1 h2
        ·rw [qL (by omega),hm' _ (by omega),qz (by omega)];exact hmx
        ·rw [qL (by omega),hm' _ (by omega),qz (by omega),hmb.same _ (by omega) (by omega)];exact g2r
        ·exact zd (by omega)
        ·exact ho'.set (by omega)
        ·rw [←hI]
         generalize jl (fun env k s=>expI ts es f env k body s) (fun env nm s=>renI ts es env nm body s) (binB n.op) (1+1) env1 nm1 (n.kids.drop (1+1)) s'=W;cases W with
         |error e=>rfl
         |ok q=>simp [vT,Int.add_assoc]
      ·have hk1':¬(k:Int)=1:=by omega
       simp [go_sem,e0,e1,e3,e6,e8,e17,e87,e88,e89,hlt,gn1,hk1',qr];have hM2l:st.mu.length+1≤(st.mu++[Cell.arr (cNd n.kids[k])]).length:=by simp
       have g2x:(st.mu++[Cell.arr (cNd n.kids[k])])[xb]?=some (.arr (cIn ts tb s2)):=by rw [hpush _ _ (by omega)];exact gx
       have g2t:(st.mu++[Cell.arr (cNd n.kids[k])])[tb]?=some (.mp (eSet es)):=by rw [hpush _ _ (by omega)];exact gt
       have g2n:=gn1 [Cell.arr (cNd n.kids[k])];have g2r:(st.mu++[Cell.arr (cNd n.kids[k])])[mu.length+1]?=some (.arr [aI 0,aS ⟨#[]⟩,aI 0,.lst true [],aI 0]):=by rw [hpush _ _ (by omega)];exact gr
       have g2o:OwnF (mu.length+2) (st.mu++[Cell.arr (cNd n.kids[k])]) 5 av (acc.map cNd):=wC go (by omega) fun i q1 q2=>hpush _ _ q2
       have g2b:But xb mu (st.mu++[Cell.arr (cNd n.kids[k])]):=hbut.trans (But.app xb st.mu _);have hst3:StOk (qC ts es) s2:=⟨hl0,hc0,hc1,by have:=Qj (qC ts es) (binB n.op) k;omega⟩;have hd3:dueN (qC ts es) (binB n.op) (k+1)≤pot (qC ts es) s2:=by rw [←Vs hb];exact hdue
       have hcost3:=hcost;have hz3:=hz2;have hev2:=hev;have et1:=e1;generalize st.mu++[Cell.arr (cNd n.kids[k])]=M2 at *
       have hkm:n.kids[k]∈n.kids:=qJ hlt;have hcall:=ih env1 n.kids[k] body s2 M2 xb (by omega) hst3 hev2 (hw.kid hkm) (hcl.kid hkm) g2x g2t;have hgo:∀{n' z s'},expI ts es f env1 n.kids[k] body s2 = .ok ((n',z),s')→Gos (qC ts es) s2 s' z:=fun e=>vF ts hfr f hst3 hev2 e
       generalize hE:expI ts es f env1 n.kids[k] body s2=E at *
       cases E with
       |error d =>
        have hI:R = .error d:=hI.symm;subst hI;refine qc.eff0 hcall (by rintro r m ⟨e,_⟩;cases e) ?_;rintro r m ⟨e,hmb⟩;cases e;simp [go_sem];exact ⟨rfl,g2b.trans hmb⟩
       |ok q =>
        obtain ⟨⟨n',k'⟩,s'⟩:=q;have hg:=hgo rfl;simp only at hI;refine qc.eff0 hcall ?_ (by rintro r m ⟨e,_⟩;cases e);rintro r m ⟨e,hmx,hmb⟩;cases e;have hml:=hmb.len;have hmn:∀ l,(m++l)[mu.length]?=some (.arr [aI n.op,aS nm1,aI n.n,av,aI n.pos]):=fun l=>by rw [qz (by omega),hmb.same _ (by omega) (by omega)];exact g2n
        have hcc:=g2o.cells;have hon:=g2o.one;have hsz:IntKind.i64.wrap (z+k')=z+k':=qy (by have:=hg.z0;omega) (by have:=hg.cz;have:=hg.c1;omega);have ho3:OwnF (mu.length+2) (m++[Cell.arr (cNd n')]) 5 av (acc.map cNd):=wC g2o (by simp;omega) fun i h1 h2=>by rw [qz (by omega),hmb.same i (by omega) (by omega)]
        simp [go_sem,e0,e3,e6,e8,e17,e87,e88,e89,hmn,hcc,hon,hsz,qr];refine jY ho3 (by omega) fun av' m' ho' hm'=>?_
        have hlm:=ho'.2.2;have hmn':m'[mu.length]?=some (.arr [aI n.op,aS nm1,aI n.n,av,aI n.pos]):=by rw [hm' _ (by omega)];exact hmn _
        have hcc':=ho'.cells;have hon':=ho'.one;simp [go_sem,e0,e3,e6,e8,e17,e87,e88,e89,hmn',hcc',hon',hsz,w1,w2,qr];refine ⟨hlt,Keep.mk' ?_⟩;refine ⟨acc++[n'],env1,nm1,s',av',z+k',by simp [go_sem,e0],by simp [go_sem,et1],by simp [go_sem,e3],by simp [go_sem,e6],by simp [go_sem,e8],by simp [go_sem],by simp [go_sem,e87],by simp [go_sem,e88],by simp [go_sem],?_,?_,?_,?_,?_,hev2,by simp;omega,hg.l0,by have:=hg.cz;have:=hg.z0;omega,hg.c1,Int.le_trans hd3 hg.p,by have:=hg.cz;have:=hg.z0;omega,by have:=hg.z0;omega,by have:=hg.cz;omega,?_⟩
        all_goals try simp only [qT]
        ·refine ⟨by simp;omega,fun i h1 h2=>?_⟩
         rw [qL (by omega),hm' i (by omega),qz (by omega),hmb.same i (by omega) h2];exact g2b.same i h1 h2
        ·rw [qL (by omega),hm' _ (by omega),qz (by omega)];exact hmx
        ·rw [qL (by omega),hm' _ (by omega),qz (by omega),hmb.same _ (by omega) (by omega)];exact g2r
        ·exact zd (by omega)
        ·exact ho'.set (by omega)
        ·rw [←hI]
         generalize jl (fun env k s=>expI ts es f env k body s) (fun env nm s=>renI ts es env nm body s) (binB n.op) (k+1) env1 nm1 (n.kids.drop (k+1)) s'=W;cases W with
         |error e=>rfl
         |ok q=>simp [vT,Int.add_assoc]
  ·rw [if_neg hcc] at e;cases e
 ·rintro r m ⟨rfl,e⟩
  by_cases hcc:s.cost+1≤4000
  ·rw [if_pos hcc] at e;cases e
  ·rw [if_neg hcc] at e hR
   cases e;subst hR;simp [go_sem];exact ⟨rfl,(But.app xb mu _).trans (But.setX xb _ _)⟩
theorem WE (ts:TS) (h:okTS ts) (hb:∀ p,p∈ts.preds→WfN p.body∧yv ts p.body) (es:List (ByteArray×Bool)) (hF:qC ts es≤200000) (hfr:Free ts es) (tb:Nat):∀ f:Nat,IHE ts es tb f
 | 0=>fun env n body s mu xb hc hs he hw hcl hx ht=>by have:=hs.c1;omega
 |f+1=>fun env n body s mu xb hc hs he hw hcl hx ht=>by
  by_cases h1:n.op=1
  ·have:=qeR ts es tb env n body s mu xb hs he hx ht h1
   have e:expI ts es (f+1) env n body s=if s.cost+1≤4000 then uc env n (payS 1 s) else .error (2,0):=by simp only [expI,h1,if_true]
   rw [e];exact this
  ·by_cases h47:n.op=47
   ·exact qeT ts h hb es hF hfr tb f (WE ts h hb es hF hfr tb f) env n body s mu xb hc hs he hw hcl hx ht h47
   ·exact qeU ts h es hF hfr tb f (WE ts h hb es hF hfr tb f) env n body s mu xb hc hs he hw hcl hx ht h1 h47
end Go.Proofs.YtcfopdccdeeleaaGreatDoor.YD


namespace Go.Proofs.YtcfopdccdeeleaaGreatDoor.YE
open Go Go.Ev Go.Proofs Go.Proofs.YtcfopdccdeeleaaGreatDoor YM YS YF P1 P2 Y1 Y2 Y3 Y4 Y5 Y6 Y7 Y8 Y9 Y10 Y11 Y12 Y13 Y14 Y15 Y16 YU YV YW YX YZ YA YB PA YC YD
mutual
def cntT:Nd→Int
 | .mk _ _ _ ks _=>1+yX ks
def yX:List Nd→Int
 | []=>0
 |k :: ks=>cntT k+yX ks
end
theorem WG (n:Nd):cntT n=1+yX n.kids:=by
 obtain ⟨op,nm,i,ks,p⟩:=n;simp [cntT,Nd.kids]
mutual
theorem WH:∀ n:Nd,1≤cntT n
 | .mk _ _ _ ks _=>by simp only [cntT];have:=Vu ks;omega
theorem Vu:∀ ks:List Nd,0≤yX ks
 | []=>by simp [yX]
 |k :: ks=>by simp only [yX];have:=WH k;have:=Vu ks;omega
end
mutual
theorem WI:∀ n:Nd,depN n≤cntT n
 | .mk _ _ _ ks _=>by simp only [cntT,depN];have:=pj ks;omega
theorem pj:∀ ks:List Nd,ym ks≤yX ks
 | []=>by simp [ym,yX]
 |k :: ks=>by
  simp only [yX,ym];have:=WI k;have:=pj ks;have:=WH k;have:=Vu ks;omega
end
def ue (env:IEnv):Prop:=∀ e,e∈env→∀ a,e.2.arg=some a→e.2.size=cntT a∧Small a
theorem WJ {κ α:Type} [DecidableEq κ] {k:κ} {v:α}:∀{es:List (κ×α)},getK k es=some v→(k,v)∈es
 | [],h=>by simp [getK] at h
 |e :: es,h=>by
  unfold getK at h;split at h
  ·rename_i hk;cases h;subst hk;exact zG ..
  ·exact zt _ (WJ h)
theorem Vv {κ α:Type} [DecidableEq κ] {k:κ} {v:α}:∀{es:List (κ×α)} {x:κ×α},x∈setK k v es→x=(k,v)∨x∈es
 | [],x,h=>by simp [setK] at h;exact .inl h
 |e :: es,x,h=>by
  unfold setK at h;split at h
  ·rcases qK.1 h with h | h
   ·exact .inl h
   ·exact .inr (zt _ h)
  ·rcases qK.1 h with h | h
   ·exact .inr (by rw [h];exact zG ..)
   ·exact (Vv h).imp id (zt _)
theorem qeV {ts:TS} {es:List (ByteArray×Bool)} {env:IEnv} {nm:ByteArray} {body:Bool} {s:ISt} (h:ue env):ue (renI ts es env nm body s).1.1:=by
 have hd:ue (delK nm env):=fun e he=>h e (UV.subset he)
 unfold renI;split
 ·intro e he a ha
  rcases Vv he with rfl | he
  ·cases ha
  ·exact hd e he a ha
 ·exact hd
theorem pk {E:Nd→ISt→XR (Nd×Int)}:∀{ks:List Nd} {ps:List (ByteArray×Int)} {own own':IEnv} {s s':ISt},(∀ k n' z s s',k∈ks→E k s = .ok ((n',z),s')→z=cntT n'∧Small n')→ue own→jv E ps ks own s = .ok (own',s')→ue own'
 | [],ps,own,own',s,s',_,ho,e=>by
  have e:Except.ok (own,s)=(Except.ok (own',s'):XR IEnv):=by cases ps<;>exact e
  cases e;exact ho
 |k :: ks,[],own,own',s,s',_,ho,e=>by cases e;exact ho
 |k :: ks,p :: ps,own,own',s,s',hE,ho,e=>by
  simp only [jv] at e;split at e
  ·cases e
  ·rename_i k' m s1 h1
   refine pk (fun k n' z s s' hk=>hE k n' z s s' (zt _ hk)) (fun e he a ha=>?_) e;rcases Vv he with rfl | he
   ·cases ha
    exact hE k _ m s s1 (zG ..) h1
   ·exact ho e he a ha
theorem pm {E:IEnv→Nd→ISt→XR (Nd×Int)} {R:IEnv→ByteArray→ISt→(IEnv×ByteArray)×ISt} {bin:Bool} (hR:∀ env nm s,ue env→ue (R env nm s).1.1) :
  ∀{ks:List Nd} {i:Nat} {env:IEnv} {nm nm':ByteArray} {s s':ISt} {ks':List Nd} {m:Int},(∀ env k n' z s s',k∈ks→ue env→E env k s = .ok ((n',z),s')→z=cntT n'∧Small n')→ue env →
  jl E R bin i env nm ks s = .ok ((nm',ks',m),s')→m=yX ks'∧ks'.length=ks.length∧∀ k,k∈ks'→Small k
 | [],i,env,nm,nm',s,s',ks',m,_,_,e=>by
  cases e;exact ⟨rfl,rfl,fun k hk=>absurd hk zb⟩
 |k :: ks,i,env,nm,nm',s,s',ks',m,hE,he,e=>by
  simp only [jl] at e;obtain ⟨r,hr⟩:∃ r,r=if bin=true∧i=1 then R env nm s else ((env,nm),s):=⟨_,rfl⟩
  rw [←hr] at e;have hra:ue r.1.1:=by
   rw [hr];split
   ·exact hR _ _ _ he
   ·exact he
  split at e
  ·cases e
  ·rename_i k' m1 s1 h1
   have g:=hE r.1.1 k k' m1 r.2 s1 (zG ..) hra h1;split at e
   ·cases e
   ·rename_i nm2 ks2 m2 s2 h2
    obtain ⟨q1,q2,q3⟩:=pm hR (fun env k n' z s s' hk=>hE env k n' z s s' (zt _ hk)) hra h2;cases e;refine ⟨by simp only [yX];rw [g.1,q1],by simp [q2],fun x hx=>?_⟩;rcases qK.1 hx with rfl | hx
    ·exact g.2
    ·exact q3 x hx
theorem Qk (ts:TS) (hb:∀ p,p∈ts.preds→WfN p.body) (es:List (ByteArray×Bool)):∀(f:Nat) {env:IEnv} {n n':Nd} {body:Bool} {s s':ISt} {z:Int},ue env→WfN n→expI ts es f env n body s = .ok ((n',z),s')→z=cntT n'∧Small n'
 | 0,_,_,_,_,_,_,_,_,_,e=>by cases e
 |f+1,env,n,n',body,s,s',z,he,hw,e=>by
  simp only [expI] at e;split at e
  ·split at e
   ·rename_i hop
    have hkn:n.kids=[]:=by
     have hs:=hw.shape;unfold shp at hs;rw [if_pos (.inl hop)] at hs;simp only [Option.some.injEq] at hs;exact List.map_eq_nil_iff.1 hs.symm
    unfold uc at e;split at e
    ·cases e
     exact ⟨by rw [WG,hkn];rfl,hw.small⟩
    ·rename_i v hv
     split at e
     ·cases e
      refine ⟨by rw [WG];show 1=1+yX n.kids;rw [hkn];rfl,.mk _ (by show n.kids.length≤1000;rw [hkn];simp) fun k hk=>?_⟩;have hk:k∈n.kids:=hk;rw [hkn] at hk;exact absurd hk zb
     ·rename_i a ha
      split at e
      ·cases e
       exact he _ (WJ hv) _ ha
      ·cases e
   ·split at e
    ·split at e
     ·cases e
     ·rename_i p hp
      obtain ⟨own,s1,h1,e⟩:=Vn e;have ho:=pk (fun k n' z s s' hk hE=>Qk ts hb es f he (hw.kid hk) hE) (fun e he=>absurd he zb) h1;exact Qk ts hb es f ho (hb p (List.mem_of_find?_eq_some hp)) e
    ·obtain ⟨⟨nm',ks',m⟩,s1,h1,e⟩:=Vn e
     cases e;obtain ⟨q1,q2,q3⟩:=pm (fun env nm s h=>qeV h) (fun env k n' z s s' hk hv hE=>Qk ts hb es f hv (hw.kid hk) hE) he h1;refine ⟨by rw [WG];show 1+m=_;rw [q1];rfl,.mk _ ?_ q3⟩;show ks'.length≤1000;have:=hw.len;omega
  ·cases e
theorem pn {E:Nd→ISt→XR (Nd×Int)}:∀{ks:List Nd} {ps:List (ByteArray×Int)} {own:IEnv} {s:ISt} {d:Dg},(∀ k s d,E k s = .error d→d=(2,0))→jv E ps ks own s = .error d→d=(2,0)
 | [],ps,own,s,d,_,e=>by
  have e:Except.ok (own,s)=(Except.error d:XR IEnv):=by cases ps<;>exact e
  cases e
 |k :: ks,[],own,s,d,_,e=>by cases e
 |k :: ks,p :: ps,own,s,d,hE,e=>by
  simp only [jv] at e;split at e
  ·rename_i d' h1
   cases e;exact hE _ _ _ h1
  ·exact pn hE e
theorem pp {E:IEnv→Nd→ISt→XR (Nd×Int)} {R:IEnv→ByteArray→ISt→(IEnv×ByteArray)×ISt} {bin:Bool}:∀{ks:List Nd} {i:Nat} {env:IEnv} {nm:ByteArray} {s:ISt} {d:Dg},(∀ env k s d,E env k s = .error d→d=(2,0))→jl E R bin i env nm ks s = .error d→d=(2,0)
 | [],i,env,nm,s,d,_,e=>by cases e
 |k :: ks,i,env,nm,s,d,hE,e=>by
  simp only [jl] at e;split at e
  ·rename_i d' h1
   cases e;exact hE _ _ _ _ h1
  ·split at e
   ·rename_i d' h2
    cases e;exact pp hE h2
   ·cases e
theorem pr {α β:Type} {q:XR α} {g:α→ISt→XR β} {d:Dg} (h:vT q g = .error d):q = .error d∨∃ a s,q = .ok (a,s)∧g a s = .error d:=by
 unfold vT at h;split at h
 ·cases h;exact .inl rfl
 ·exact .inr ⟨_,_,rfl,h⟩
theorem YI (ts:TS) (es:List (ByteArray×Bool)):∀(f:Nat) {env:IEnv} {n:Nd} {body:Bool} {s:ISt} {d:Dg},expI ts es f env n body s = .error d→d=(2,0)
 | 0,_,_,_,_,_,e=>by cases e;rfl
 |f+1,env,n,body,s,d,e=>by
  simp only [expI] at e;split at e
  ·split at e
   ·unfold uc at e
    split at e
    ·cases e
    ·split at e
     ·cases e
     ·split at e
      ·cases e
      ·cases e;rfl
   ·split at e
    ·split at e
     ·cases e;rfl
     ·rcases pr e with e | ⟨own,s',h1,e⟩
      ·exact pn (fun k s d h=>YI ts es f h) e
      ·exact YI ts es f e
    ·rcases pr e with e | ⟨own,s',h1,e⟩
     ·exact pp (fun env k s d h=>YI ts es f h) e
     ·cases e
  ·cases e;rfl
def outI (ts:TS) (es:List (ByteArray×Bool)) (n:Nd):Except Dg Nd:=
 match expI ts es 4001 [] n false ⟨0,0⟩ with
 | .error d => .error d
 | .ok ((n',z),_)=>if z≤400∧depN n'≤24 then .ok n' else .error (2,n.pos)
theorem qeW {ts:TS} {es:List (ByteArray×Bool)} {n:Nd} {d:Dg} (h:outI ts es n = .error d):d.1=2:=by
 unfold outI at h;split at h
 ·rename_i d' hd
  cases h;rw [YI ts es _ hd]
 ·split at h
  ·cases h
  ·cases h;rfl
theorem qeX (ts:TS) (h:okTS ts) (hb:∀ p,p∈ts.preds→WfN p.body∧yv ts p.body) (es:List (ByteArray×Bool)) (hF:qC ts es≤200000) (hfr:Free ts es) (n:Nd) (hw:WfN n) (hcl:yv ts n) {mu:Mu} {xp ob xb tb:Nat}
  (h1:mu[xp]?=some (.arr [.ptr xb 0])) (hx:mu[xb]?=some (.arr (cIn ts tb ⟨0,0⟩))) (ht:mu[tb]?=some (.mp (eSet es))) (ho:mu[ob]?=some (.arr [aI 0,aS ⟨#[]⟩,aI 0,.lst true [],aI 0])) :
  qW Tryz.prog 69 [.ptr xp 0,.ip (cNd n),.ptr ob 0] mu fun e m=>match outI ts es n with
   | .error d=>e = .pan (jq d.1 d.2)∧mu.length≤m.length∧∀ i,i<mu.length→i≠xb→i≠ob→m[i]?=mu[i]?
   | .ok n'=>e = .ret (.tup [])∧m[ob]?=some (.arr (cNd n'))∧mu.length≤m.length∧∀ i,i<mu.length→i≠xb→i≠ob→m[i]?=mu[i]?:=by
 refine qSW Tryz.call69 Tryz.func69 rfl {} ?_;have hxpl:xp<mu.length:=(qv.1 h1).1;have hxl:xb<mu.length:=(qv.1 hx).1;have htl:tb<mu.length:=(qv.1 ht).1;have hol:ob<mu.length:=(qv.1 ho).1;have hobx:ob≠xb:=fun e=>by rw [e,hx] at ho;cases ho
 simp [go_sem,h1];have hkeep:∀ i,i<mu.length→(cutM (fun i=>!decide (mu.length≤i)) (mu++[Cell.mp []]) 0)[i]?=mu[i]?:=fun i hi=>by rw [vE (by simp;omega),qz hi]
 have hst:StOk (qC ts es) ⟨0,0⟩:=⟨by simp,by simp,by simp,by simp [pot]⟩;have hcall:=WE ts h hb es hF hfr tb 4001 [] n false ⟨0,0⟩ (cutM (fun i=>!decide (mu.length≤i)) (mu++[Cell.mp []]) 0) xb (by simp) hst .nil hw hcl (by rw [hkeep _ hxl];exact hx) (by rw [hkeep _ htl];exact ht);have hcall:=qW.freeze (mu:=mu++[Cell.mp []]) (args:=[.ptr xb 0,.mp mu.length,eNd n,aB false]) (args1:=[.ptr xb 0,eEnv [],eNd n,aB false]) (fun i=>decide (mu.length≤i)) ⟨.inl rfl,.inr (pi (acc:=[]) (by rw [vE (by simp)];simp) (by simp) (fun e he=>absurd he zb)),.inl rfl,.inl rfl,trivial⟩ hcall;have hsz:=fun {n' z s'}=>Qk ts (fun p hp=>(hb p hp).1) es 4001 (env:=[]) (n:=n) (n':=n') (body:=false) (s:=⟨0,0⟩) (s':=s') (z:=z) (fun e he=>absurd he zb) hw
 have hgo:=fun {n' z s'}=>vF ts hfr 4001 (env:=[]) (n:=n) (n':=n') (body:=false) (s':=s') (z:=z) hst .nil
 unfold outI;generalize expI ts es 4001 [] n false ⟨0,0⟩=E at *
 cases E with
 |error d =>
  refine qc.eff0 hcall (by rintro r m ⟨e,_⟩;cases e) ?_;rintro r m ⟨e,hmb⟩;cases e;have hml:=hmb.len;rw [jQ] at hml;simp only [zr,List.length_cons,List.length_nil] at hml;simp [go_sem];exact ⟨by omega,fun i hi hx ho=>by rw [hmb.same i (by rw [jQ];simp;omega) hx,hkeep i hi]⟩
 |ok q =>
  obtain ⟨⟨n',z⟩,s'⟩:=q;obtain ⟨hz,hsm⟩:=hsz rfl;have hg:=hgo rfl;have hz4:z≤4000:=by have:=hg.cz;have:=hg.c1;simp only at *;omega
  have hdl:=WI n';refine qc.eff0 hcall ?_ (by rintro r m ⟨e,_⟩;cases e);rintro r m ⟨e,hmx,hmb⟩;cases e;have hml:=hmb.len;rw [jQ] at hml;simp only [zr,List.length_cons,List.length_nil] at hml;have hmo:m[ob]?=some (.arr [aI 0,aS ⟨#[]⟩,aI 0,.lst true [],aI 0]):=by rw [hmb.same _ (by rw [jQ];simp;omega) hobx,hkeep _ hol];exact ho
  have hset:∀ c,(m.set ob c)[ob]?=some c:=fun c=>zd (by omega)
  simp [go_sem,h1,hmo,qr];have hrest:∀ c,mu.length≤(m.set ob c).length∧∀ i,i<mu.length→i≠xb→i≠ob→(m.set ob c)[i]?=mu[i]?:=fun c=>⟨by simp;omega,fun i hi hx ho=>by
   rw [qL (fun e=>ho e.symm),hmb.same i (by rw [jQ];simp;omega) hx,hkeep i hi]⟩
  have wz:∀ b c,WKs [aB b,aI c,eNd n] [aB b,aI c,eNd n]:=fun b c => .cons (.hf (HF.sc _)) (.cons (.hf (HF.sc _)) (.cons (.hf (qO n)) .nil))
  by_cases hz1:z≤400
  ·have hdep:=k6 (szN n') n' (qB _) hsm (by omega)
   by_cases hd1:depN n'≤24
   ·refine qx.intro (by kernel_rfl) ?_
    simp [go_sem,hz1,hset];refine qc.pure hdep (.cons (.hf (qO n')) .nil) ?_;simp [go_sem,hz1,hd1];refine qc.pure (zN true 2 n).toP (wz true 2) ?_;simp [go_sem,hz1,hd1,hset];simpa using hrest _
   ·refine qx.tail 8 (by kernel_rfl) ?_
    simp [go_sem,hz1,hset];refine qc.pure hdep (.cons (.hf (qO n')) .nil) ?_;simp [go_sem,hz1,hd1];refine qc.pans (zN false 2 n) (wz false 2) ?_;simp [go_sem,hz1,hd1];simpa using hrest _
  ·refine qx.tail 8 (by kernel_rfl) ?_
   simp [go_sem,hz1,hset];refine qc.pans (zN false 2 n) (wz false 2) ?_;simp [go_sem,hz1];simpa using hrest _
end Go.Proofs.YtcfopdccdeeleaaGreatDoor.YE


namespace Go.Proofs.YtcfopdccdeeleaaGreatDoor.YG
open Go Go.Ev Go.Proofs Go.Proofs.YtcfopdccdeeleaaGreatDoor YM YS YF P1 P2 Y1 Y2 Y3 Y4 Y5 Y6 Y7 Y8 Y9 Y10 Y11 Y12 Y13 Y14 Y15 Y16 YU YV YW YX YZ YA YB PA YC YD YE Q4 Q6
def valD (l:List UInt8):Nat:=l.foldl (fun a b=>10*a+(b.toNat-48)) 0
theorem pt (u:Nat):valD (Lib.decDigits u)=u:=by
 induction u using Nat.strongRecOn with
 |_ u ih =>
  rw [Lib.decDigits];split
  ·rename_i h
   simp only [valD,List.foldl_cons,List.foldl_nil];rw [UInt8.toNat_ofNat_of_lt' (by simp [UInt8.size];omega)];omega
  ·rename_i h
   have:=ih (u / 10) (by omega);unfold valD at this ⊢;rw [ZU,this];simp only [List.foldl_cons,List.foldl_nil];rw [UInt8.toNat_ofNat_of_lt' (by simp [UInt8.size];omega)];omega
theorem qeY {a b:Nat} (h:jr (a:Int)=jr (b:Int)):a=b:=by
 have h1:Lib.decDigits a=Lib.decDigits b:=by
  unfold jr Lib.itoa at h;rw [if_neg (by omega),if_neg (by omega)] at h;simp only [Int.toNat_natCast] at h;have h:=congrArg (fun x:ByteArray=>x.data.toList) h;simpa using h
 rw [←pt a,h1,pt]
theorem qeZ {p a b:ByteArray} (h:p++a=p++b):a=b:=by
 have h:=congrArg (fun x:ByteArray=>x.data.toList) h;simp only [ByteArray.data_append,Array.toList_append] at h;have:=List.append_cancel_left h;cases a;cases b;simp at this;rw [this]
theorem qe0 {a b:Nat} (h:vN (a:Int)=vN (b:Int)):a=b:=qeY (qeZ h)
def badL (ts:TS) (es:List (ByteArray×Bool)):List ByteArray:=es.map Prod.fst++(ts.fields.map (fun f=>f.name)++ts.sorts.flatMap fun s=>[s.1,s.1++vy,s.1++v7])
theorem qe1 (ts:TS) (es:List (ByteArray×Bool)):(badL ts es).length+1=qC ts es:=by
 have:∀ l:List (ByteArray×Bool),(l.flatMap fun s=>[s.1,s.1++vy,s.1++v7]).length=3*l.length:=by
  intro l;induction l with
  |nil=>rfl
  |cons a l ih=>rw [u9,zr,ih];simp;omega
 unfold badL qC;rw [zr,zr,this,jn,jn];omega
theorem qe2 {ts:TS} {es:List (ByteArray×Bool)} {nm:ByteArray} (h:yW ts es nm=false):nm∈badL ts es:=by
 unfold yW at h;unfold badL;rw [Bool.and_eq_false_iff] at h;rcases h with h | h
 ·have h:getK nm es=some true:=by simpa using h
  exact List.mem_append_left _ (qE.2 ⟨_,WJ h,rfl⟩)
 ·refine List.mem_append_right _ ?_
  have h:ya ts nm≠[]:=by simpa using h
  unfold ya at h;by_cases hf:yz ts.fields nm=[]
  ·rw [hf,List.nil_append] at h
   refine List.mem_append_right _ ?_;have:∀(so:List (ByteArray×Bool)) (i:Nat),yA i so nm≠[]→nm∈so.flatMap fun s=>[s.1,s.1++vy,s.1++v7]:=by
    intro so;induction so with
    |nil=>intro i h;exact absurd rfl h
    |cons s so ih =>
     intro i h;rw [u9,zh];by_cases h1:vM i s nm=[]
     ·refine .inr (ih (i+1) ?_)
      simpa [yA,h1] using h
     ·left
      unfold vM at h1;by_cases a1:s.1=nm
      ·simp [a1]
      by_cases a2:s.2=true∧s.1++vy=nm
      ·simp [a2.2]
      by_cases a3:s.2=true∧s.1++v7=nm
      ·simp [a3.2]
      exact absurd (by simp [a1,a2,a3]) h1
   exact this ts.sorts 0 h
  ·refine List.mem_append_left _ ?_
   obtain ⟨k,hk⟩:=List.exists_mem_of_ne_nil _ hf;unfold yz at hk;obtain ⟨f,hf,e⟩:=List.mem_filterMap.1 hk;split at e
   ·rename_i e1
    exact qE.2 ⟨f,hf,e1⟩
   ·cases e
theorem pu (ts:TS) (es:List (ByteArray×Bool)):Free ts es:=by
 intro l hl;by_cases hex:∃ j:Nat,1≤j∧j≤qC ts es∧yW ts es (vN (l+j))=true
 ·exact hex
 exfalso;obtain ⟨L,rfl⟩:∃ L:Nat,l=L:=⟨l.toNat,by omega⟩;have hsub:∀ x,x∈(List.range (qC ts es)).map (fun i=>vN ((L+(i+1):Nat):Int))→x∈badL ts es:=fun x hx=>by
  obtain ⟨i,hi,rfl⟩:=qE.1 hx;rw [List.mem_range] at hi;refine qe2 ?_;cases hq:yW ts es (vN ((L+(i+1):Nat):Int)) with
  |false=>rfl
  |true=>exact absurd ⟨i+1,by omega,by omega,by rw [show (L:Int)+((i+1:Nat):Int)=((L+(i+1):Nat):Int) by omega];exact hq⟩ hex
 have hnd:((List.range (qC ts es)).map (fun i=>vN ((L+(i+1):Nat):Int))).Nodup:=by
  refine List.pairwise_map.2 (List.nodup_range.imp fun hne e=>hne ?_);have:=qe0 e;omega
 have:=List.Nodup.length_le_of_subset hnd hsub;rw [jn,List.length_range] at this;have:=qe1 ts es;omega
def putN (es:List (ByteArray×Bool)) (l:List Nd):List (ByteArray×Bool):=l.foldl (fun es n=>setK n.name true es) es
def yY (ts:TS) (n:Nd):List (ByteArray×Bool):=ts.preds.foldl (fun es p=>putN es (preN p.body)) (putN [] (preN n))
def jw (ts:TS) (n:Nd):Nd×Int:=
 if (yK ts [] n).1≠0 then (nd0,(yK ts [] n).1)
 else if anyN (fun n=>decide (n.op=47)) n=false then (n,0)
 else match outI ts (yY ts n) n with
  | .error d=>(nd0,d.1)
  | .ok n'=>(n',0)
theorem pv (p:Nd→Bool):∀(m:Nat) (n:Nd),szN n≤m→anyN p n=(preN n).any p
 | 0,n,hm=>by obtain ⟨op,nm,i,ks,q⟩:=n;simp [szN] at hm
 |m+1,n,hm=>by
  rw [Ww,ww,List.any_cons];congr 1;have:∀ l:List Nd,(∀ k,k∈l→k∈n.kids)→vD p l=(zz l).any p:=by
   intro l;induction l with
   |nil=>intro _;rfl
   |cons k l ih =>
    intro hl;simp only [vD,zz,List.any_append];rw [ih fun x hx=>hl x (zt _ hx),pv p m k (by have:=yu (hl k (zG ..));omega)]
  exact this n.kids fun k hk=>hk
end Go.Proofs.YtcfopdccdeeleaaGreatDoor.YG


namespace Go.Proofs.YtcfopdccdeeleaaGreatDoor.YH
open Go Go.Ev Go.Proofs Go.Proofs.YtcfopdccdeeleaaGreatDoor YM YS YF P1 P2 Y1 Y2 Y3 Y4 Y5 Y6 Y7 Y8 Y9 Y10 Y11 Y12 Y13 Y14 Y15 Y16 YU YV YW YX YZ YA YB PA YC YD YE YG Q4 Q6
structure InM (ts:TS) (es:List (ByteArray×Bool)) (b:Bool) (mu:Mu):Prop where
 r:mu[0]?=some (.arr [aI 0,aS ⟨#[]⟩,aI 0,.lst true [],aI 0])
 t:mu[2]?=some (.mp (eSet es))
 x:mu[3]?=some (.arr (cIn ts 2 ⟨0,0⟩))
 p:mu[4]?=some (.arr [.ptr 3 0])
 c:mu[5]?=some (.arr [aB b])
theorem InM.len {ts:TS} {es:List (ByteArray×Bool)} {b:Bool} {mu:Mu} (h:InM ts es b mu):5<mu.length:=(qv.1 h.c).1
theorem InM.push {ts:TS} {es:List (ByteArray×Bool)} {b:Bool} {mu:Mu} (h:InM ts es b mu) (l:Mu):InM ts es b (mu++l):=by
 have hl:=h.len;exact ⟨by rw [qz (by omega)];exact h.r,by rw [qz (by omega)];exact h.t,by rw [qz (by omega)];exact h.x,by rw [qz (by omega)];exact h.p,by rw [qz (by omega)];exact h.c⟩
theorem InM.setT {ts:TS} {es es':List (ByteArray×Bool)} {b:Bool} {mu:Mu} (h:InM ts es b mu):InM ts es' b (mu.set 2 (.mp (eSet es'))):=by
 have hl:=h.len;exact ⟨by rw [qL (by omega)];exact h.r,zd (by omega),by rw [qL (by omega)];exact h.x,by rw [qL (by omega)];exact h.p,by rw [qL (by omega)];exact h.c⟩
theorem InM.setC {ts:TS} {es:List (ByteArray×Bool)} {b b':Bool} {mu:Mu} (h:InM ts es b mu):InM ts es b' (mu.set 5 (.arr [aB b'])):=by
 have hl:=h.len;exact ⟨by rw [qL (by omega)];exact h.r,by rw [qL (by omega)];exact h.t,by rw [qL (by omega)];exact h.x,by rw [qL (by omega)];exact h.p,zd (by omega)⟩
theorem qe3 (mu:Mu):Rd mu eN0 (eNd nd0) := .agg _ _ rfl fun k x y hx hy=>by
 match k with
 | 0=>simp [nd0,cNd] at hx hy;subst hx;subst hy;exact .hf _ (HF.sc _)
 | 1=>simp [nd0,cNd] at hx hy;subst hx;subst hy;exact .hf _ (HF.sc _)
 | 2=>simp [nd0,cNd] at hx hy;subst hx;subst hy;exact .hf _ (HF.sc _)
 | 3=>simp [nd0,cNd,cNds] at hx hy;subst hx;subst hy;exact .wk _ true [] (.hf _ (HF.lst fun r hr=>absurd hr zb))
 | 4=>simp [nd0,cNd] at hx hy;subst hx;subst hy;exact .hf _ (HF.sc _)
 |k+5=>simp at hx
theorem ZA (mu:Mu) (d:Int):Rd mu (.tup [eN0,aI d]) (.tup [eNd nd0,aI d]) := .tup _ _ rfl fun k x y hx hy=>by
 match k with
 | 0=>simp at hx hy;subst hx;subst hy;exact qe3 _
 | 1=>simp at hx hy;subst hx;subst hy;exact .hf _ (HF.sc _)
 |k+2=>simp at hx
theorem pw (ts:TS) (h:okTS ts) (hb:∀ p,p∈ts.preds→WfN p.body∧yv ts p.body) (n:Nd) (hw:WfN n) (hcl:(yK ts [] n).1=0→yv ts n) (hF:qC ts (yY ts n)≤200000):qt Tryz.prog 23 [eTS ts,eNd n] (.tup [eNd (jw ts n).1,aI (jw ts n).2]):=by
 generalize hR:jw ts n=R;unfold jw at hR;refine qSQ Tryz.call23 Tryz.func23 rfl { mt:=[25] } ?_;simp [go_sem];have hwp:∀ p,p∈ts.preds→WfN p.body:=fun p hp=>(hb p hp).1
 refine qc.pure (Qg ts h hwp n hw [] ⟨by simp,by simp⟩) (.cons (.hf (zq ts)) (.cons (WK.lst fun r hr=>absurd hr zb) (.cons (.hf (qO n)) .nil))) ?_;simp [go_sem];by_cases hc:(yK ts [] n).1=0
 case neg =>
  rw [if_pos hc] at hR;subst hR;simp [go_sem,hc];refine qx.move 2 1 (by kernel_rfl) (by kernel_rfl) ?_ ?_
  all_goals
   simp [go_sem,hc];exact ZA _ _
 case pos =>
  rw [if_neg (by simpa using hc)] at hR;simp [go_sem,hc];have hin:∀(v:List Nd) (k:Nd) (mu:Mu),InM ts (putN [] v) (v.any fun n=>decide (n.op=47)) mu→qW Tryz.prog 67 (eNd k :: [.ptr 4 0,.ptr 5 0]) mu fun e m=>e = .ret (.tup [])∧InM ts (putN [] (v++[k])) ((v++[k]).any fun n=>decide (n.op=47)) m:=fun v k mu hI=>by
   refine (qeH ts ⟨0,0⟩ 2 _ _ k hI.p hI.x hI.c hI.t).monoR ?_;rintro e m ⟨rfl,rfl⟩;refine ⟨rfl,?_⟩;rw [List.any_append];simp only [putN,ZU,List.foldl_cons,List.foldl_nil,List.any_cons,List.any_nil,Bool.or_false];exact hI.setT.setC
  refine qc.eff0 (Wy (caps:=[.ptr 4 0,.ptr 5 0]) (fun v mu=>InM ts (putN [] v) (v.any fun n=>decide (n.op=47)) mu) (fun v mu l h=>h.push l) hin (szN n) n (qB _) hw.small [] _ ⟨rfl,rfl,rfl,rfl,rfl⟩) ?_ (by rintro r m ⟨e,_⟩;cases e);rintro r m ⟨e,hI⟩;cases e;rw [List.nil_append,←pv _ (szN n) n (qB _)] at hI;have hml:=hI.len;have hset:∀ c,(m.set 0 c)[0]?=some c:=fun c=>zd (by omega)
  cases hcall:anyN (fun n=>decide (n.op=47)) n with
  |false =>
   rw [hcall] at hI hR;rw [if_pos rfl] at hR;subst hR;simp [go_sem,hI.c,hI.r,hset,qr];exact .hf _ (HF.tup fun c hc=>by simp at hc;rcases hc with rfl | rfl;exact qO n;exact HF.sc _)
  |true =>
   rw [hcall] at hI hR;rw [if_neg (by simp)] at hR;have hnp:=h.np;simp [go_sem,hI.c];refine qD.upK ts.preds.length (fun k st=>st.tm 3 = .ip (cNd n)∧st.tm 4 = .ptr 0 0∧st.tm 7 = .ptr 4 0∧st.tm 33=lPd ts.preds∧st.tm 34=aI ts.preds.length∧st.tm 35=aI k∧InM ts ((ts.preds.take k).foldl (fun es p=>putN es (preN p.body)) (putN [] (preN n))) true st.mu) ?_ ?_
   ·exact ⟨by simp [go_sem],by simp [go_sem],by simp [go_sem],by simp [go_sem],by simp [go_sem],by simp [go_sem],by simpa [go_sem] using hI⟩
   ·rintro k st hk ⟨e3,e4,e7,e33,e34,e35,hM⟩
    by_cases hkl:k=ts.preds.length
    ·subst hkl
     simp [go_sem,e3,e4,e7,e33,e34,e35];rw [jC] at hM;have hM:InM ts (yY ts n) true st.mu:=hM;have hsl:=hM.len;have hM2:InM ts (yY ts n) true (st.mu++[Cell.arr [aI 0,aS ⟨#[]⟩,aI 0,.lst true [],aI 0]]++[.dead]):=(hM.push _).push _;have hcl0:=qeX ts h hb (yY ts n) hF (pu ts _) n hw (hcl hc) (mu:=st.mu++[Cell.arr [aI 0,aS ⟨#[]⟩,aI 0,.lst true [],aI 0]]++[.dead]) (ob:=st.mu.length) hM2.p hM2.x hM2.t (by rw [qz (by simp),zl (qB _)];simp);have hR2:=hR;clear hR;generalize hQ:outI ts (yY ts n) n=Q at *
     refine qc.eff0 (UO hcl0 ?_) ?_ ?_
     ·rintro v m hR
      cases Q with
      |error d=>exact ⟨_,_,by have:=hR.1;cases this;rfl⟩
      |ok n'=>have:=hR.1;cases this
     ·rintro r m ⟨m',c,⟨l,rfl⟩,hcase⟩
      have hml':st.mu.length+2≤m'.length∧∀ i,i<st.mu.length+2→i≠3→i≠st.mu.length→m'[i]?=(st.mu++[Cell.arr [aI 0,aS ⟨#[]⟩,aI 0,.lst true [],aI 0]]++[.dead])[i]?:=by
       rcases hcase with ⟨r',hR,_⟩ | ⟨er,p,hR,_⟩<;>cases Q with
       |error d=>exact ⟨by have:=hR.2.1;simpa using this,fun i h1 h2 h3=>hR.2.2 i (by simpa using h1) h2 h3⟩
       |ok n'=>exact ⟨by have:=hR.2.2.1;simpa using this,fun i h1 h2 h3=>hR.2.2.2 i (by simpa using h1) h2 h3⟩
      have hm0:∀(c:Cell) (l:List Cell),(m'.set (st.mu.length+1) c++l)[0]?=some (.arr [aI 0,aS ⟨#[]⟩,aI 0,.lst true [],aI 0]):=fun c l=>by
       rw [qz (by simp;omega),qL (by omega),hml'.2 0 (by omega) (by omega) (by omega)];exact hM2.r
      have hset2:∀(c c2:Cell) (l:List Cell),((m'.set (st.mu.length+1) c++l).set 0 c2)[0]?=some c2:=fun c c2 l=>zd (by simp;omega)
      have hmid:∀(c c':Cell) (l:List Cell),(m'.set (st.mu.length+1) c++(l++[c']))[m'.length+l.length]?=some c':=fun c c' l=>by
       rw [zl (by simp),zl (by simp)];simp
      have hmid2:∀(c c' c2:Cell) (l:List Cell),((m'.set (st.mu.length+1) c++(l++[c'])).set 0 c2)[m'.length+l.length]?=some c':=fun c c' c2 l=>by
       rw [qL (by omega)];exact hmid c c' l
      rcases hcase with ⟨r',hR,e⟩ | ⟨er,p,hR,e⟩
      ·cases Q with
       |error d=>have:=hR.1;cases this
       |ok n' =>
        cases e;have hmo:∀(c:Cell) (l:List Cell),(m'.set (st.mu.length+1) c++l)[st.mu.length]?=some (.arr (cNd n')):=fun c l=>by
         rw [qz (by simp;omega),qL (by omega)];exact hR.2.1
        simp [go_sem,e3,e4,e7,hmo,hm0,hset2,qr];subst hR2;exact .hf _ (HF.tup fun c hc=>by simp at hc;rcases hc with rfl | rfl;exact qO _;exact HF.sc _)
      ·cases Q with
       |ok n'=>have:=hR.1;cases this
       |error d =>
        have hd2:=qeW hQ;have e1:er=d.1:=by have:=hR.1;cases this;rfl
        subst e1;cases e;simp [go_sem,e3,e4,e7,hd2];have n0:=hm0 c (l++[Cell.arr [aI d.1,aI p]]);have n1:=hmid c (Cell.arr [aI d.1,aI p]) l;have n2:=fun c2=>hmid2 c (Cell.arr [aI d.1,aI p]) c2 l
        have n3:=fun c2=>hset2 c c2 (l++[Cell.arr [aI d.1,aI p]])
        rw [hd2] at n0 n1 n2 n3;generalize m'.set (st.mu.length+1) c++(l++[Cell.arr [aI 2,aI p]])=N at *
        generalize m'.length+l.length=b at *
        refine qx.move 2 1 (by kernel_rfl) (by kernel_rfl) ?_ ?_
        all_goals
         simp [go_sem,e3,e4,e7,n0,n1,n2,n3];subst hR2;rw [←hd2];exact ZA _ _
     ·rintro r m ⟨m',c,⟨l,rfl⟩,⟨r',hR,e⟩ | ⟨er,p,hR,e⟩⟩<;>cases e
    ·have hlt:k<ts.preds.length:=by omega
     have w1:IntKind.i64.wrap ((k:Int)+1)=(k:Int)+1:=qy (by omega) (by omega);have hrow:=jt ts.preds[k];simp [go_sem,e3,e4,e7,e33,e34,e35,hlt,hrow,qr];have hpm:ts.preds[k]∈ts.preds:=qJ hlt;generalize hE0:(ts.preds.take k).foldl (fun es p=>putN es (preN p.body)) (putN [] (preN n))=E0 at *
     have hin2:∀(v:List Nd) (x:Nd) (mu:Mu),InM ts (putN E0 v) true mu→qW Tryz.prog 68 (eNd x :: [.ptr 4 0]) mu fun e m=>e = .ret (.tup [])∧InM ts (putN E0 (v++[x])) true m:=fun v x mu hI=>by
      refine (qeI ts ⟨0,0⟩ 2 _ x hI.p hI.x hI.t).monoR ?_;rintro e m ⟨rfl,rfl⟩;refine ⟨rfl,?_⟩;simp only [putN,ZU,List.foldl_cons,List.foldl_nil];exact hI.setT
     refine qc.eff0 (Wy (caps:=[.ptr 4 0]) (fun v mu=>InM ts (putN E0 v) true mu) (fun v mu l h=>h.push l) hin2 (szN ts.preds[k].body) ts.preds[k].body (qB _) (hwp _ hpm).small [] _ (hM.push _)) ?_ (by rintro r m ⟨e,_⟩;cases e);rintro r m ⟨e,hI2⟩;cases e;simp [go_sem,e3,e4,e7,e33,e34,e35,w1];refine ⟨hlt,Keep.mk' ?_⟩;refine ⟨by simp [go_sem,e3],by simp [go_sem,e4],by simp [go_sem,e7],by simp [go_sem,e33],by simp [go_sem,e34],by simp [go_sem],?_⟩;rw [List.take_add_one,qX hlt,ZU,hE0];simpa [go_sem] using hI2
end Go.Proofs.YtcfopdccdeeleaaGreatDoor.YH


namespace Go.EvW
open Go Go.Ev Go.RowKit Go.ChangeShapes Go.WideShapes
def CR (w:World) (xs:List AV) (cs:List Value):Prop:=
 cs.length=xs.length∧∀(k:Nat) x,xs[k]?=some x→VRel ⟨(·<w.heap.size),[]⟩ w.heap x (cs.getD k undef)
theorem CR.nil (w:World):CR w [] []:=⟨rfl,by simp⟩
theorem CR.one {w:World} {x:AV} {v:Value} (h:VRel ⟨(·<w.heap.size),[]⟩ w.heap x v):CR w [x] [v]:=⟨rfl,fun k y hk=>by
 cases k with
 |zero=>simp at hk;subst hk;simpa using h
 |succ k=>simp at hk⟩
theorem CR.app {w:World} {xs ys:List AV} {cs ds:List Value} (h:CR w xs cs) (k:CR w ys ds):CR w (xs++ys) (cs++ds):=by
 refine ⟨by simp [h.1,k.1],fun i x hi=>?_⟩;by_cases hl:i<xs.length
 ·rw [qz hl] at hi
  have:=h.2 i x hi;rw [List.getD_eq_getElem?_getD] at this ⊢;rw [qz (by rw [h.1];exact hl)];exact this
 ·rw [zl (by omega)] at hi
  have:=k.2 _ x hi;rw [List.getD_eq_getElem?_getD] at this ⊢;rw [zl (by rw [h.1];omega),h.1];exact this
def jA {H:Type} (P:Program) (t:TypeId) (d:DataW H):Prop:=(d.weights P t).all (·≤reachBytes)=true
theorem jA.all {H:Type} {P:Program} {e:TypeId}:∀{ds:List (DataW H)},(DataW.weightsAll P e ds).all (·≤reachBytes)=true→∀(i:Nat) d,ds[i]?=some d→jA P e d
 | [],_,i,d,hi=>by simp at hi
 |x :: r,h,i,d,hi=>by
  simp only [DataW.weightsAll,List.all_append,Bool.and_eq_true] at h;cases i with
  |zero=>simp at hi;subst hi;exact h.1
  |succ i=>exact jA.all h.2 i d (by simpa using hi)
theorem jA.each {H:Type} {P:Program}:∀{ts:List TypeId} {ds:List (DataW H)},(DataW.weightsEach P ts ds).all (·≤reachBytes)=true→∀(i:Nat) t d,ts[i]?=some t→ds[i]?=some d→jA P t d
 | [],ds,_,i,t,d,hi,_=>by simp at hi
 |t0 :: ts,[],_,i,t,d,_,hj=>by simp at hj
 |t0 :: ts,x :: r,h,i,t,d,hi,hj=>by
  simp only [DataW.weightsEach,List.all_append,Bool.and_eq_true] at h;cases i with
  |zero=>simp at hi hj;subst hi;subst hj;exact h.1
  |succ i=>exact jA.each h.2 i t d (by simpa using hi) (by simpa using hj)
def ShT (P:Program) (n:Nat) (t:TypeId) {α:Type} (c:α→List AV) (ok:α→Prop):Prop:=
 ∀(H:Type) (enc:TypeId×Value→H) (w:World) (cs:List Value) (x:DataW H×List MemPlace),
  DataW.trod enc P w 0 (fun _=>true) true n t cs=some x→jA P t x.1→∃ a,ok a∧CR w (c a) cs
def ShU (P:Program) (N:Nat) (t:TypeId) {α:Type} (c:α→List AV) (ok:α→Prop):Prop:=∀ n,n<N→ShT P n t c ok
theorem ShU.le {P:Program} {N M:Nat} {t:TypeId} {α:Type} {c:α→List AV} {ok:α→Prop} (h:ShU P N t c ok) (hm:M≤N):ShU P M t c ok:=fun n hn=>h n (by omega)
theorem ShU.map {P:Program} {N:Nat} {t:TypeId} {α β:Type} {c:α→List AV} {ok:α→Prop} {c':β→List AV} {ok':β→Prop} (h:ShU P N t c ok) (f:α→β) (hc:∀ a,c' (f a)=c a) (ho:∀ a,ok a→ok' (f a)):ShU P N t c' ok':=by
 intro n hn H enc w cs x hx hw;obtain ⟨a,h1,h2⟩:=h n hn H enc w cs x hx hw;exact ⟨f a,ho a h1,by rw [hc];exact h2⟩
theorem ShU.int {P:Program} {t:TypeId} {k:IntKind} (ht:P.underlying t=some (.int k)) (N:Nat):ShU P N t (fun n:Int=>[.sc (.int k n)]) (fun n=>(Lit.int k n).wf=true):=by
 intro n hn H enc w cs x h _;obtain ⟨i,rfl,_,hw⟩:=DataW.trod_int ht h;exact ⟨i,hw,.one (.sc _ rfl)⟩
theorem ShU.bool {P:Program} {t:TypeId} (ht:P.underlying t=some .bool) (N:Nat):ShU P N t (fun b:Bool=>[.sc (.bool b)]) (fun _=>True):=by
 intro n hn H enc w cs x h _;obtain ⟨i,rfl,_⟩:=DataW.trod_bool ht h;exact ⟨i,trivial,.one (.sc _ rfl)⟩
theorem ShU.string {P:Program} {t:TypeId} (ht:P.underlying t=some .string) (N:Nat):ShU P N t (fun s:ByteArray=>[.sc (.string s)]) (fun s=>s.size≤140737488351232):=by
 intro n hn H enc w cs x h hw;obtain ⟨i,rfl,rfl,hs⟩:=DataW.trod_string ht h;refine ⟨i,?_,.one (.sc _ rfl)⟩;unfold jA at hw;simp only [DataW.weights,List.all_cons,List.all_nil,Bool.and_true,decide_eq_true_eq] at hw;have e:i.data.toList.length=i.size:=Array.length_toList;have h1:i.size≤reachBytes:=by rw [←e];exact hw
 exact yZ h1 (uE rfl)
theorem py {w:World} {a:Addr} {n:Nat} {cs:List Value} (h:w.cells? 0 a n=some cs):cs.length=n∧∀ i,i<n→w.cell? (a.add i)=some (cs.getD i undef):=by
 unfold World.cells? at h;rw [if_pos (Nat.zero_le _)] at h;have hl:=mapM_some_length h;refine ⟨by simpa using hl,fun i hi=>?_⟩;have:=mapM_some_get h i i (by simp [hi]);have hi':i<cs.length:=by simp at hl;omega
 rw [this,List.getD_eq_getElem?_getD,qX hi'];rfl
theorem pz {w:World} {a:Addr} {v:Value} (h:w.cell? a=some v):∃ arr e fr,w.heap[a.block]?=some (.cells arr e fr)∧a.spot=none∧arr[a.off]?=some v:=by
 unfold World.cell? at h;split at h
 ·rename_i c e fr hb
  split at h
  ·cases h
  ·rename_i hs
   exact ⟨c,e,fr,hb,by simpa using hs,h⟩
 ·cases h
theorem qe4 {α:Type} [Inhabited α] {p:Nat→α→Prop} (n:Nat) (h:∀ i,i<n→∃ a,p i a):∃ l:List α,l.length=n∧∀(i:Nat) a,l[i]?=some a→p i a:=by
 induction n with
 |zero=>exact ⟨[],rfl,by simp⟩
 |succ n ih =>
  obtain ⟨l,h1,h2⟩:=ih (fun i hi=>h i (by omega));obtain ⟨a,ha⟩:=h n (by omega);refine ⟨l++[a],by simp [h1],fun i b hb=>?_⟩;by_cases hi:i<l.length
  ·rw [qz hi] at hb;exact h2 i b hb
  ·rw [zl (by omega)] at hb
   have:i-l.length=0:=by
    cases hq:i-l.length with
    |zero=>rfl
    |succ q=>rw [hq] at hb;simp at hb
   rw [this] at hb;simp at hb;subst hb;have:i=n:=by omega
   subst this;exact ha
theorem ShU.slice {P:Program} {N:Nat} {t e:TypeId} {α:Type} [Inhabited α] {c:α→List AV} {ok:α→Prop} (ht:P.underlying t=some (.slice e)) (he:ShU P N e c ok) (hsz:∀ a,ok a→(c a).length=P.cellsOf e) (hpos:0<P.cellsOf e) (hby:Nat.blt 0 (P.bytesOf e)=true) :
  ShU P (N+1) t (fun l:List α=>[.lst false (l.map c)]) (fun l=>l.length≤140737488351232∧∀ a,a∈l→ok a):=by
 intro n hn H enc w cs x h hw;rcases DataW.trod_slice ht h with ⟨rfl,_⟩ | ⟨a,len,cap,elems,rest,m,rfl,rfl,rfl,_,hl,hc,hel,hget,_,_⟩
 ·exact ⟨[],⟨by simp,by simp⟩,.one (.nil _)⟩
 ·have hwl:(DataW.weightsAll P e (elems.map (·.1))).all (·≤reachBytes)=true:=by
   unfold jA at hw;simp only [DataW.weights,ht,List.all_cons,List.all_append,Bool.and_eq_true] at hw;exact hw.2.1
  have hlr:len≤140737488351232:=by
   unfold jA at hw;simp only [DataW.weights,ht,List.all_cons,List.all_append,Bool.and_eq_true,decide_eq_true_eq] at hw;have h1:=hw.1;have hb1:1≤P.bytesOf e:=uE hby;have h2:((elems.map (·.1)).length+(rest.map (·.1)).length)*1≤((elems.map (·.1)).length+(rest.map (·.1)).length)*P.bytesOf e:=Nat.mul_le_mul_left _ hb1;simp only [jn] at h1 h2;have h3:reachBytes≤140737488351232:=uE rfl;have h4:=yZ h2 (yZ h1 h3);omega
  have key:∀ i,i<len→∃ b,ok b∧∃ cs',w.cells? 0 (a.add (i*P.cellsOf e)) (P.cellsOf e)=some cs'∧CR w (c b) cs':=by
   intro i hi;have h1:=hget i hi;have hie:i<elems.length:=by omega
   rw [qX hie] at h1;obtain ⟨cs',h2,h3⟩:=Option.bind_eq_some_iff.1 h1;obtain ⟨b,h4,h5⟩:=he m (by omega) H enc w cs' _ h3 (jA.all hwl i _ (by rw [zM,qX hie];rfl));exact ⟨b,h4,cs',h2,h5⟩
  obtain ⟨l,hll,hlp⟩:=qe4 len key;refine ⟨l,⟨by rw [hll];exact hlr,fun b hb=>?_⟩,.one ?_⟩
  ·obtain ⟨i,hi⟩:=List.mem_iff_getElem?.1 hb
   exact (hlp i b hi).1
  ·have hlm:(l.map c).length=len:=by simp [hll]
   rw [←hlm];cases Nat.eq_zero_or_pos len with
   |inl h0 =>
    have:l=[]:=List.eq_nil_of_length_eq_zero (by omega);subst this;exact .emp _ a cap (by simp)
   |inr hp =>
    have hl0:0<l.length:=by omega
    obtain ⟨_,cs0,h1,_⟩:=hlp 0 l[0] (qX hl0);obtain ⟨hcl,hcg⟩:=py h1;have hc0:=hcg 0 hpos;obtain ⟨arr,el,fr,hb,hs,_⟩:=pz hc0;have hadd:∀ k:Nat,a.spot=none→(a.add k).spot=none∧(a.add k).off=a.off+k:=by
     intro k hk;unfold Addr.add;split<;>simp_all
    have hab:∀(b:Addr) (j:Nat),(b.add j).block=b.block:=by
     intro b j;unfold Addr.add;split<;>rfl
    have e0:((a.add (0*P.cellsOf e)).add 0).block=a.block∧((a.add (0*P.cellsOf e)).add 0).spot=a.spot:=by
     unfold Addr.add;split<;>simp_all
    rw [e0.1] at hb;rw [e0.2] at hs;have hz:yD (P.cellsOf e) (l.map c):=fun r hr=>by
     obtain ⟨b,hbm,rfl⟩:=qE.1 hr;obtain ⟨i,hi⟩:=List.mem_iff_getElem?.1 hbm;exact hsz b (hlp i b hi).1
    have hfl:=jp hz;refine .lst false (l.map c) (P.cellsOf e) a cap arr el fr (fun k=>arr.getD (a.off+k) undef) hb hs (by omega) (by simp) (Array.getElem?_eq_some_iff.1 hb).1 hz ?_ ?_
    all_goals
     intro k x hk;have hkl:k<(l.map c).length*P.cellsOf e:=by rw [←hfl];exact (qv.1 hk).1
     have hq:k / P.cellsOf e<l.length:=by
      rw [jn] at hkl;exact Nat.div_lt_of_lt_mul (by rw [Nat.mul_comm];exact hkl)
     have hr:k % P.cellsOf e<P.cellsOf e:=Nat.mod_lt _ hpos;have hdm:k / P.cellsOf e*P.cellsOf e+k % P.cellsOf e=k:=by
      have:=Nat.div_add_mod k (P.cellsOf e);rw [Nat.mul_comm] at this;exact this
     obtain ⟨_,cs',h1,h2⟩:=hlp (k / P.cellsOf e) _ (qX hq);obtain ⟨hcl,hcg⟩:=py h1;have hc1:=hcg _ hr;have hrow:(l.map c)[k / P.cellsOf e]?=some (c l[k / P.cellsOf e]):=by rw [zM,qX hq];rfl
     have hx:(c l[k / P.cellsOf e])[k % P.cellsOf e]?=some x:=by
      have hlt:k % P.cellsOf e<(c l[k / P.cellsOf e]).length:=by rw [hsz _ (hlp _ _ (qX hq)).1];exact hr
      have:=VO hz hrow (qX hlt);rw [hdm] at this;rw [this] at hk;rw [qX hlt];exact hk
     obtain ⟨arr',el',fr',hb',hs',hv'⟩:=pz hc1;have e1:((a.add (k / P.cellsOf e*P.cellsOf e)).add (k % P.cellsOf e)).block=a.block:=by rw [hab,hab]
     have e2:((a.add (k / P.cellsOf e*P.cellsOf e)).add (k % P.cellsOf e)).off=a.off+k:=by
      have a1:=(hadd (k / P.cellsOf e*P.cellsOf e) hs).2;have a2:=(hadd (k / P.cellsOf e*P.cellsOf e) hs).1;have:∀(b:Addr) (j:Nat),b.spot=none→(b.add j).off=b.off+j:=by
       intro b j hb;unfold Addr.add;split<;>simp_all
      rw [this _ _ a2,a1];omega
     rw [e1,hb] at hb';cases hb';rw [e2] at hv';have hgd:arr.getD (a.off+k) undef=cs'.getD (k % P.cellsOf e) undef:=by
      rw [za,hv'];rfl
    ·rw [hgd];exact hv'
    ·show VRel _ _ x (arr.getD (a.off+k) undef)
     rw [hgd];exact h2.2 _ x hx
def Vw (P:Program) (t:TypeId):Option (List (TypeId×Nat)):=match P.underlying t with | some (.struct fs)=>some (fs.toList.map fun f=>(f.type,f.offset)) | _=>none
inductive ShF (P:Program) (N:Nat):Nat→List (TypeId×Nat)→{α:Type}→(α→List AV)→(α→Prop)→Prop where
 |nil (o:Nat):ShF P N o [] (fun _:Unit=>[]) (fun _=>True)
 |cons {o:Nat} {t:TypeId} {fs:List (TypeId×Nat)} {α β:Type} {c:α→List AV} {ok:α→Prop} {c':β→List AV} {ok':β→Prop} (h:ShU P N t c ok) (k:ShF P N (o+P.cellsOf t) fs c' ok') :
   ShF P N o ((t,o) :: fs) (fun x:α×β=>c x.1++c' x.2) (fun x=>ok x.1∧ok' x.2)
def YJ (P:Program) (fs:List (TypeId×Nat)):Nat:=(fs.map fun f=>P.cellsOf f.1).foldr (·+·) 0
theorem ShF.read {P:Program} {N n o:Nat} {fs:List (TypeId×Nat)} {α:Type} {c:α→List AV} {ok:α→Prop} (h:ShF P N o fs c ok) (hn:n<N) {H:Type} {enc:TypeId×Value→H} {w:World} (cs:List Value)
  (hlen:cs.length=o+YJ P fs) (hx:∀(i:Nat) f,fs[i]?=some f→∃ x,DataW.trod enc P w 0 (fun _=>true) true n f.1 ((cs.drop f.2).take (P.cellsOf f.1))=some x∧jA P f.1 x.1) :
  ∃ a,ok a∧CR w (c a) (cs.drop o):=by
 induction h with
 |nil o =>
  refine ⟨(),trivial,?_⟩;rw [List.drop_of_length_le (by simp [YJ] at hlen;omega)];exact .nil w
 | @cons o t fs α β c ok c' ok' h k ih =>
  obtain ⟨x,hx0,hxw⟩:=hx 0 _ rfl;obtain ⟨a,ha,hr⟩:=h n hn H enc w _ x hx0 hxw;have hfs:YJ P ((t,o) :: fs)=P.cellsOf t+YJ P fs:=rfl;obtain ⟨b,hb,hs⟩:=ih (by omega) (fun i g hg=>hx (i+1) g hg);refine ⟨(a,b),⟨ha,hb⟩,?_⟩;have e:cs.drop o=(cs.drop o).take (P.cellsOf t)++cs.drop (o+P.cellsOf t):=by
   rw [←List.drop_drop,List.take_append_drop]
  rw [e];exact hr.app hs
theorem ShU.struct {P:Program} {N:Nat} {t:TypeId} {fs:List (TypeId×Nat)} {α:Type} {c:α→List AV} {ok:α→Prop} (ht:Vw P t=some fs) (hf:ShF P N 0 fs c ok) (hsz:P.cellsOf t=YJ P fs):ShU P (N+1) t c ok:=by
 intro n hn H enc w cs x h hw;unfold Vw at ht;split at ht
 ·rename_i gs hu
  simp only [Option.some.injEq] at ht;subst ht;obtain ⟨xs,m,rfl,rfl,hl,hxl,hg⟩:=DataW.trod_struct hu h;have hwl:(DataW.weightsEach P (gs.toList.map (·.type)) (xs.map (·.1))).all (·≤reachBytes)=true:=by
   unfold jA at hw;simp only [DataW.weights,hu] at hw;exact hw
  obtain ⟨a,ha,hr⟩:=hf.read (n:=m) (by omega) (w:=w) (enc:=enc) cs (by rw [hl,hsz];simp) (fun i f hi=>by
   simp only [zM,wb] at hi;obtain ⟨g,hgi,rfl⟩:=hi;have h1:=hg i g (by simpa using hgi);have hil:i<xs.length:=by
    rw [hxl];have:=(qv.1 hgi).1;simpa using this
   rw [qX hil] at h1;exact ⟨_,h1,jA.each hwl i _ _ (by rw [zM,hgi];rfl) (by rw [zM,qX hil];rfl)⟩)
  exact ⟨a,ha,by simpa using hr⟩
 ·cases ht
theorem ShU.arg1 {P:Program} {t:TypeId} {α:Type} {c:α→AV} {ok:α→Prop} (h:∀ N,ShU P N t (fun a=>[c a]) ok) (hone:∀(w:World) (r:Reach) (b:Nat) (v:Value),Value.okWide P w r b t v→v.cells=#[v])
  {H:Type} {enc:TypeId×Value→H} {w:World} {r:Reach} {b:Nat} {v:Value} {d:DataW H} {ps:List MemPlace} (hok:Value.okWide P w r b t v) (hd:DataW.Trod enc P w 0 (fun _=>true) true t v d ps) (hw:jA P t d) :
  ∃ a,ok a∧VRel ⟨(·<w.heap.size),[]⟩ w.heap (c a) v:=by
 obtain ⟨n,hn⟩:=hd;obtain ⟨a,ha,hr⟩:=h (n+1) n (by omega) H enc w _ _ hn hw;rw [hone w r b v hok] at hr;have:=hr.2 0 (c a) rfl;exact ⟨a,ha,by simpa using this⟩
theorem ShU.argS {P:Program} {t:TypeId} {α:Type} {c:α→List AV} {ok:α→Prop} {fs:Array Field} (h:∀ N,ShU P N t c ok) (ht:P.underlying t=some (.struct fs))
  {H:Type} {enc:TypeId×Value→H} {w:World} {r:Reach} {b:Nat} {v:Value} {d:DataW H} {ps:List MemPlace} (hok:Value.okWide P w r b t v) (hd:DataW.Trod enc P w 0 (fun _=>true) true t v d ps) (hw:jA P t d) :
  ∃ a,ok a∧VRel ⟨(·<w.heap.size),[]⟩ w.heap (.agg (c a)) v:=by
 obtain ⟨n,hn⟩:=hd;obtain ⟨a,ha,hr⟩:=h (n+1) n (by omega) H enc w _ _ hn hw;unfold Value.okWide at hok;rw [ht] at hok;obtain ⟨cs,rfl,_,_⟩:=hok;refine ⟨a,ha,.agg _ _ (by simpa [Value.cells] using hr.1) (fun k x hk=>?_)⟩;have:=hr.2 k x hk;simpa [Value.cells,za,List.getD_eq_getElem?_getD] using this
theorem qe5 {P:Program} {t e:TypeId} (ht:P.underlying t=some (.slice e)) (w:World) (r:Reach) (b:Nat) (v:Value) (h:Value.okWide P w r b t v):v.cells=#[v]:=by
 unfold Value.okWide at h;rw [ht] at h;simp only [Cell.okWide,ht] at h;cases v<;>simp_all [Value.cells,Cell.ok]
end Go.EvW


namespace Go.EvW
open Go Go.Ev Go.RowKit Go.ChangeShapes Go.WideShapes
def uf (P:Program) (t:TypeId) {α:Type} (c:α→AV) (ok:α→Prop):Prop:=
 ∀(H:Type) (enc:TypeId×Value→H) (w:World) (r:Reach) (b:Nat) (v:Value) (d:DataW H) (ps:List MemPlace),Value.okWide P w r b t v→DataW.Trod enc P w 0 (fun _=>true) true t v d ps→jA P t d →
  ∃ a,ok a∧VRel ⟨(·<w.heap.size),[]⟩ w.heap (c a) v
theorem uf.struct {P:Program} {t:TypeId} {α:Type} {c:α→List AV} {ok:α→Prop} (ht:(Vw P t).isSome=true) (h:∀ N,ShU P N t c ok):uf P t (fun a => .agg (c a)) ok:=by
 intro H enc w r b v d ps h1 h2 h3;unfold Vw at ht;split at ht
 ·rename_i fs hu;exact ShU.argS h hu h1 h2 h3
 ·simp at ht
theorem uf.slice {P:Program} {t e:TypeId} {α:Type} {c:α→AV} {ok:α→Prop} (ht:P.underlying t=some (.slice e)) (h:∀ N,ShU P N t (fun a=>[c a]) ok):uf P t c ok:=
 fun H enc w r b v d ps h1 h2 h3=>ShU.arg1 h (qe5 ht) h1 h2 h3
inductive ArgF (P:Program):List TypeId→{α:Type}→(α→List AV)→(α→Prop)→Prop where
 |nil:ArgF P [] (fun _:Unit=>[]) (fun _=>True)
 |cons {t:TypeId} {ts:List TypeId} {α β:Type} {c:α→AV} {ok:α→Prop} {c':β→List AV} {ok':β→Prop} (h:uf P t c ok) (k:ArgF P ts c' ok'):ArgF P (t :: ts) (fun x:α×β=>c x.1 :: c' x.2) (fun x=>ok x.1∧ok' x.2)
theorem ArgF.read {P:Program} {ts:List TypeId} {α:Type} {c:α→List AV} {ok:α→Prop} (h:ArgF P ts c ok) {H:Type} {enc:TypeId×Value→H} {w:World} {r:Reach} {b:Nat} :
  ∀{vs:List Value} {ds:List (DataW H)} {ps:List MemPlace},DataW.TrodAll enc P w 0 (fun _=>true) true ts vs ds ps→(∀(j:Nat) t v,ts[j]?=some t→vs[j]?=some v→Value.okWide P w r b t v)→(DataW.weightsEach P ts ds).all (·≤reachBytes)=true →
  ∃ a,ok a∧ds.length=ts.length∧vs.length=(c a).length∧∀(k:Nat) x,(c a)[k]?=some x→VRel ⟨(·<w.heap.size),[]⟩ w.heap x (vs.getD k undef):=by
 induction h with
 |nil =>
  intro vs ds ps ht _ _;obtain ⟨rfl,rfl,rfl⟩:=trodAll_nil ht;exact ⟨(),trivial,rfl,rfl,by simp⟩
 | @cons t ts α β c ok c' ok' h k ih =>
  intro vs ds ps ht hk hw;obtain ⟨v,vs',d,ds',p,q,rfl,rfl,rfl,h1,h2⟩:=trodAll_cons ht;simp only [DataW.weightsEach,List.all_append,Bool.and_eq_true] at hw;obtain ⟨a,ha,hr⟩:=h H enc w r b v d p (hk 0 t v rfl rfl) h1 hw.1;obtain ⟨a',ha',hdl,hl,hg⟩:=ih h2 (fun j t v=>hk (j+1) t v) hw.2;refine ⟨(a,a'),⟨ha,ha'⟩,by simp [hdl],by simp [hl],fun k x hx=>?_⟩;cases k with
  |zero=>simp at hx;subst hx;simpa using hr
  |succ k =>
   simp only [List.getElem?_cons_succ] at hx;simpa [List.getD_eq_getElem?_getD] using hg k x hx
theorem pH {P:Program} (hl:laidOutB P=true) {H:Type} {enc:TypeId×Value→H} {W W':World} {sp:Nat→Bool}:∀{ts:List TypeId} {vs:List Value} {ds:List (DataW H)} {ps:List MemPlace},
  (∀ t,t∈ts→P.readableRec t=true∧t<P.types.size)→DataW.TrodAll enc P W 0 (fun _=>true) true ts vs ds ps→(∀ p∈ps,W.sameAt W' p)→(∀ p∈ps,sp p.block=true)→DataW.TrodAll enc P W' 0 sp true ts vs ds ps
 | [],vs,ds,ps,_,h,_,_=>by
  obtain ⟨rfl,rfl,rfl⟩:=trodAll_nil h;exact trodAll_mk0
 |t :: ts,vs,ds,ps,hr,h,h1,h2=>by
  obtain ⟨v,vs',d,ds',p,q,rfl,rfl,rfl,g1,g2⟩:=trodAll_cons h;have ht:=hr t (by simp);exact trodAll_cons_mk (WideElems.Trod_stays hl ht.1 ht.2 g1 (fun x hx=>h1 x (by simp [hx])) (fun x hx=>h2 x (by simp [hx])))
   (pH hl (fun t ht=>hr t (by simp [ht])) g2 (fun x hx=>h1 x (by simp [hx])) (fun x hx=>h2 x (by simp [hx])))
theorem qe6 {P:Program} {f:FuncId} {fn:Func} {s:ChangeSpec} {ts:List TypeId} {tb:TypeId} {α:Type} {c:α→List AV} {ok:α→Prop} (hp:fn.params=ts.toArray) (hF:ArgF P ts c ok) (hv:s.vars=[])
  (hfn:∀(H:Type) (ds:List (DataW H)),ds.length=ts.length→s.fn H ds={ results:=[.lit (.bool true)],args:=ds }) (hr:fn.resultTypes=#[tb]) (htb:P.underlying tb=some .bool)
  (hl:laidOutB P=true) (hrr:(ts.all fun t=>P.readableRec t&&decide (t<P.types.size))=true) (hS:∀ a,ok a→qt P f (c a) (aB true))
  (H:Type) (enc:TypeId×Value→H) (W:World) (base:Nat) (args:Array Value) (ds gs:List (DataW H)) (before:List MemPlace)
  (hval:∀(j:Nat) t v,fn.params[j]?=some t→args[j]?=some v→Value.okWide P W .any base t v) (hW:DataW.Whole enc P fn.params.toList s.vars false W args.toList ds gs before) (hwt:(DataW.weightsEach P fn.params.toList ds).all (·≤reachBytes)=true) (hT:wI (·<W.heap.size) W.heap) :
  Calls P f args W fun e W'=>∃ v,e = .returned v∧s.post enc P fn false true false false W args v W':=by
 have hW':=hW;obtain ⟨p,q,hA,hV,hpq,hfz,_⟩:=hW;rw [hv] at hV;obtain ⟨hg,hq⟩:=trodVars_none hV;subst hg;subst hq;rw [ye] at hpq;subst hpq;rw [hp] at hA hval;obtain ⟨a,ha,hdl,hvl,hvg⟩:=hF.read (r := .any) (b:=base) hA (fun j t v h1 h2=>hval j t v (by simpa using h1) (by simpa using h2)) (by rw [hp] at hwt;exact hwt);have hlt:∀ x,x∈before→x.block<W.heap.size:=fun x hx=>hA.lt x hx
 obtain ⟨_,hcall⟩:=hS a ha;refine (hcall (·<W.heap.size) W args (Sim.empty (fun _ h=>h) hT) ⟨by simpa using hvl,fun k x hk=>?_⟩).mono fun e W' ⟨imm',v,he,_,_,hb,hrv⟩=>?_
 ·have:=hvg k x hk
  simpa [za,List.getD_eq_getElem?_getD] using this
 ·have hvb:v = .bool true:=by cases hrv;rfl
  subst hvb;refine ⟨_,he,ds,[],before,[],before,[],hW',?_,?_,?_,World.keptBut_mono (fun x hx=>⟨hx,.inr (.inl hx)⟩) (hb.frame (·∈before)),fun h=>by cases h⟩
  all_goals try rw [ye]
  all_goals try rw [hfn H ds hdl]
  ·rw [hr]
   exact trodAll_cons_mk (p':=[]) (shut_bool htb true) trodAll_mk0
  ·rw [hp]
   refine pH hl (fun t ht=>?_) hA (fun x hx=>hb.same (hlt x hx)) (fun x hx=>by simpa using hlt x hx);have:=List.all_eq_true.1 hrr t ht;simpa using this
  ·rw [hv];rfl
theorem ShF.cons' {P:Program} {N o o':Nat} {t:TypeId} {fs:List (TypeId×Nat)} {α β:Type} {c:α→List AV} {ok:α→Prop} {c':β→List AV} {ok':β→Prop} (ho:o+P.cellsOf t=o') (h:ShU P N t c ok) (k:ShF P N o' fs c' ok') :
  ShF P N o ((t,o) :: fs) (fun x:α×β=>c x.1++c' x.2) (fun x=>ok x.1∧ok' x.2):=by
 subst ho;exact .cons h k
theorem pI {P:Program} {w:World}:∀{laid:List (String×DataW Unit)} {ps:List MemPlace},DataW.LaidVars P w laid ps→∀ x,x∈laid→∃ g t cs fuel p,P.globalNamed x.1=some g∧(P.globals[g]?).map (·.type)=some t∧w.var? P x.1=some cs∧DataW.trod (fun _=>()) P w 0 (fun _=>true) false fuel t cs.toList=some (x.2,p)
 | [],_,_,x,hx=>by simp at hx
 | (n,d) :: r,ps,h,x,hx=>by
  obtain ⟨g,t,cs,fuel,p,q,h1,h2,h3,h4,h5,_⟩:=h;rcases qK.1 hx with rfl | hx
  ·exact ⟨g,t,cs,fuel,p,h1,h2,h3,h4⟩
  ·exact pI h5 x hx
theorem qe7 {P:Program} {w:World} {t e:TypeId} {n fuel:Nat} {k:IntKind} (ht:P.underlying t=some (.array n e)) (he:P.underlying e=some (.int k)) (hc:P.cellsOf e=1) (hct:P.cellsOf t=n) {cs:List Value} {ns:List Int} {p:List MemPlace}
  (h:DataW.trod (fun _=>()) P w 0 (fun _=>true) false fuel t cs=some (.agg (ns.map fun i => .lit (.int k i)),p)):cs=ns.map fun i => .int k i:=by
 obtain ⟨xs,m,_,hx,hl,hn,hel⟩:=DataW.trod_array ht h;simp only [Prod.mk.injEq,DataW.agg.injEq] at hx;have hx:=hx.1;have hns:ns.length=n:=by have:=congrArg List.length hx;simp at this;omega
 rw [hct] at hl;rw [hc] at hel;apply List.ext_getElem
 ·simp [hl,hns]
 ·intro i h1 h2
  have h3:=hel i (by omega);rw [Nat.mul_one] at h3;have hxi:i<xs.length:=by omega
  rw [qX hxi] at h3;obtain ⟨z,e1,e2,_⟩:=DataW.trod_int he h3;have h4:(xs[i]).1=DataW.lit (.int k z):=by rw [e2]
  have h5:(ns.map fun i=>(DataW.lit (.int k i):DataW Unit))[i]?=(xs.map (·.1))[i]?:=by rw [hx]
  rw [zM,zM,qX hxi,qX (by omega)] at h5;simp only [Option.map_some,Option.some.injEq] at h5;rw [h4] at h5;simp only [DataW.lit.injEq,Lit.int.injEq,true_and] at h5;have h6:(cs.drop i).take 1=[cs[i]]:=by rw [zA h1];rfl
  rw [h6] at e1;simp only [List.cons.injEq,and_true] at e1;rw [e1,List.getElem_map,h5]
theorem qe8 {P:Program} {w:World} {name:String} {g:Nat} {cs:Array Value} (hg:P.globalNamed name=some g) (h:w.var? P name=some cs):∃ e fr,w.heap[g]?=some (.cells cs e fr):=by
 unfold World.var? at h;rw [hg] at h;simp only [Option.bind_some] at h;split at h
 ·rename_i c e fr hh;cases h;exact ⟨e,fr,hh⟩
 ·cases h
end Go.EvW


namespace Go.Proofs.YtcfopdccdeeleaaGreatDoor.DT
open Go Go.Ev Go.EvW Go.Proofs Go.Proofs.YtcfopdccdeeleaaGreatDoor Go.Proofs.YtcfopdccdeeleaaGreatDoor.Y1 Go.Proofs.YtcfopdccdeeleaaGreatDoor.Y2 Go.Proofs.YtcfopdccdeeleaaGreatDoor.Y3 Go.Proofs.YtcfopdccdeeleaaGreatDoor.Y4 Go.Proofs.YtcfopdccdeeleaaGreatDoor.P1 Go.Proofs.YtcfopdccdeeleaaGreatDoor.P2 Go.Proofs.YtcfopdccdeeleaaGreatDoor.YF Go.Proofs.YtcfopdccdeeleaaGreatDoor.Y9
theorem unInt:Tryz.prog.underlying 3=some (.int .i64):=by kernel_rfl
theorem pJ:Tryz.prog.underlying 4=some .bool:=by kernel_rfl
theorem qe9:Tryz.prog.underlying 9=some .string:=by kernel_rfl
theorem qfA:Tryz.prog.underlying 52=some (.slice 3):=by kernel_rfl
theorem qfB:Tryz.prog.underlying 22=some (.slice 108):=by kernel_rfl
theorem qfC:Tryz.prog.underlying 23=some (.slice 74):=by kernel_rfl
theorem qfD:Tryz.prog.underlying 29=some (.slice 31):=by kernel_rfl
theorem pK:Tryz.prog.underlying 28=some (.slice 54):=by kernel_rfl
theorem qfE:Tryz.prog.underlying 24=some (.slice 76):=by kernel_rfl
theorem qfF:Tryz.prog.underlying 25=some (.slice 70):=by kernel_rfl
abbrev okI (n:Int):Prop := -9223372036854775808≤n∧n≤9223372036854775807
abbrev okS (s:ByteArray):Prop:=s.size≤140737488351232
instance:Inhabited Nd:=⟨.mk 0 ⟨#[]⟩ 0 [] 0⟩
instance:Inhabited Pd:=⟨⟨⟨#[]⟩,[],default⟩⟩
instance:Inhabited Fld:=⟨⟨⟨#[]⟩,[],false⟩⟩
theorem YK (N:Nat):ShU Tryz.prog N 3 (fun n:Int=>[aI n]) okI:=
 (ShU.int unInt N).map (fun n=>n) (fun _=>rfl) (fun n h=>by
  simp [Lit.wf,IntKind.min,IntKind.max,IntKind.signed,IntKind.bits] at h;exact h)
theorem pL (N:Nat):ShU Tryz.prog N 4 (fun b:Bool=>[aB b]) (fun _=>True):=ShU.bool pJ N
theorem ZB (N:Nat):ShU Tryz.prog N 9 (fun s:ByteArray=>[aS s]) okS:=ShU.string qe9 N
theorem qfG (N:Nat):ShU Tryz.prog N 52 (fun xs:List Int=>[lI xs]) (fun l=>l.length≤140737488351232∧∀ x,x∈l→okI x):=
 ((ShU.slice qfA (YK N) (fun _ _=>by kernel_rfl) (Nat.lt_of_lt_of_eq Nat.zero_lt_one (by kernel_rfl)) (by kernel_rfl)).le (by omega)).map (fun l=>l) (fun _=>rfl) fun _ h=>h
theorem qfI (N:Nat):ShU Tryz.prog N 74 yi (fun f=>f.sorts.length≤140737488351232∧∀ x,x∈f.sorts→okI x):=
 ((ShU.struct (fs:=[(9,0),(52,1),(4,2)]) (by kernel_rfl) (.cons' (o':=1) (by kernel_rfl) (ZB N) (.cons' (o':=2) (by kernel_rfl) (qfG N) (.cons' (o':=3) (by kernel_rfl) (pL N) (.nil 3)))) (by kernel_rfl)).map
  (fun x=>(⟨x.1,x.2.1,x.2.2.1⟩:Fld)) (fun _=>rfl) (fun x h=>h.2.1)).le (by omega)
theorem qfJ (N:Nat):ShU Tryz.prog N 108 yh (fun s=>okS s.1):=
 ((ShU.struct (fs:=[(9,0),(4,1)]) (by kernel_rfl) (.cons' (o':=1) (by kernel_rfl) (ZB N) (.cons' (o':=2) (by kernel_rfl) (pL N) (.nil 2))) (by kernel_rfl)).map
  (fun x=>((x.1,x.2.1):ByteArray×Bool)) (fun _=>rfl) (fun x h=>h.1)).le (by omega)
theorem Vx:∀ N:Nat,ShU Tryz.prog N 31 cNd (fun _=>True)
 | 0=>fun n hn=>absurd hn (by omega)
 | N+1 =>
  have ks:ShU Tryz.prog N 29 (fun l:List Nd=>[.lst false (l.map cNd)]) (fun _=>True):=((ShU.slice qfD (Vx N) (fun a _=>(Zi a).trans (by kernel_rfl)) (Nat.lt_of_lt_of_eq (show 0<5 by omega) (by kernel_rfl)) (by kernel_rfl)).le (by omega)).map (fun l=>l) (fun _=>rfl) fun _ _=>trivial
  ((ShU.struct (fs:=[(3,0),(9,1),(3,2),(29,3),(3,4)]) (by kernel_rfl)
   (.cons' (o':=1) (by kernel_rfl) (YK N) (.cons' (o':=2) (by kernel_rfl) (ZB N) (.cons' (o':=3) (by kernel_rfl) (YK N) (.cons' (o':=4) (by kernel_rfl) ks (.cons' (o':=5) (by kernel_rfl) (YK N) (.nil 5)))))) (by kernel_rfl))).map
   (fun x=>Nd.mk x.1 x.2.1 x.2.2.1 x.2.2.2.1 x.2.2.2.2.1) (fun x=>by rw [yk];rfl) fun _ _=>trivial
theorem qfK (N:Nat):ShU Tryz.prog N 54 cPm (fun p=>okI p.2):=
 ((ShU.struct (fs:=[(9,0),(3,1)]) (by kernel_rfl) (.cons' (o':=1) (by kernel_rfl) (ZB N) (.cons' (o':=2) (by kernel_rfl) (YK N) (.nil 2))) (by kernel_rfl)).map
  (fun x=>((x.1,x.2.1):ByteArray×Int)) (fun _=>rfl) (fun x h=>h.2.1)).le (by omega)
theorem pM (N:Nat):ShU Tryz.prog N 28 (fun l:List (ByteArray×Int)=>[lPm l]) (fun l=>l.length≤140737488351232):=
 ((ShU.slice pK (qfK N) (fun _ _=>by kernel_rfl) (Nat.lt_of_lt_of_eq (show 0<2 by omega) (by kernel_rfl)) (by kernel_rfl)).le (by omega)).map (fun l=>l) (fun _=>rfl) fun _ h=>h.1
theorem qfL (N:Nat):ShU Tryz.prog N 76 cPd (fun _=>True):=
 ((ShU.struct (fs:=[(9,0),(28,1),(31,2)]) (by kernel_rfl) (.cons' (o':=1) (by kernel_rfl) (ZB N) (.cons' (o':=2) (by kernel_rfl) (pM N) (.cons' (o':=7) (by kernel_rfl) (Vx N) (.nil 7)))) (by kernel_rfl)).map
  (fun x=>(⟨x.1,x.2.1,x.2.2.1⟩:Pd)) (fun x=>by simp [cPd]) fun _ _=>trivial).le (by omega)
theorem qfM (N:Nat):ShU Tryz.prog N 70 cFa (fun _=>True):=
 ((ShU.struct (fs:=[(9,0),(31,1)]) (by kernel_rfl) (.cons' (o':=1) (by kernel_rfl) (ZB N) (.cons' (o':=6) (by kernel_rfl) (Vx N) (.nil 6))) (by kernel_rfl)).map
  (fun x=>((x.1,x.2.1):ByteArray×Nd)) (fun x=>by simp [cFa]) fun _ _=>trivial).le (by omega)
structure okTA (ts:TS):Prop where
 so:∀ x,x∈ts.sorts→okS x.1
 nso:ts.sorts.length≤140737488351232
 nf:ts.fields.length≤140737488351232
 fl:∀ f,f∈ts.fields→f.sorts.length≤140737488351232∧∀ x,x∈f.sorts→okI x
theorem qfN (N:Nat):ShU Tryz.prog N 27 cTS okTA:=by
 have s1:=(ShU.slice qfB (qfJ N) (fun _ _=>by kernel_rfl) (Nat.lt_of_lt_of_eq (show 0<2 by omega) (by kernel_rfl)) (by kernel_rfl)).le (M:=N) (by omega);have s2:=(ShU.slice qfC (qfI N) (fun _ _=>by kernel_rfl) (Nat.lt_of_lt_of_eq (show 0<3 by omega) (by kernel_rfl)) (by kernel_rfl)).le (M:=N) (by omega);have s3:=(ShU.slice qfE (qfL N) (fun a h=>(jt a).1.trans (by kernel_rfl)) (Nat.lt_of_lt_of_eq (show 0<7 by omega) (by kernel_rfl)) (by kernel_rfl)).le (M:=N) (by omega);have s4:=(ShU.slice qfF (qfM N) (fun a h=>(Yp a).1.trans (by kernel_rfl)) (Nat.lt_of_lt_of_eq (show 0<6 by omega) (by kernel_rfl)) (by kernel_rfl)).le (M:=N) (by omega);have st:=ShU.struct (t:=27) (fs:=[(22,0),(23,1),(24,2),(25,3)]) (by kernel_rfl) (.cons' (o':=1) (by kernel_rfl) s1 (.cons' (o':=2) (by kernel_rfl) s2 (.cons' (o':=3) (by kernel_rfl) s3 (.cons' (o':=4) (by kernel_rfl) s4 (.nil 4))))) (by kernel_rfl);exact (st.map (fun x=>(⟨x.1,x.2.1,x.2.2.1,x.2.2.2.1⟩:TS)) (fun _=>rfl) fun x h=>⟨h.1.2,h.1.1,h.2.1.1,h.2.1.2⟩).le (by omega)
theorem aSpec:uf Tryz.prog 27 eTS okTA:=uf.struct (by kernel_rfl) qfN
theorem aNode:uf Tryz.prog 31 eNd (fun _=>True):=uf.struct (by kernel_rfl) Vx
theorem qfO:uf Tryz.prog 28 lPm (fun l=>l.length≤140737488351232):=uf.slice pK pM
end Go.Proofs.YtcfopdccdeeleaaGreatDoor.DT


namespace Go.Proofs.YtcfopdccdeeleaaGreatDoor.QA
open Go Go.Ev Go.Proofs Go.Proofs.YtcfopdccdeeleaaGreatDoor YM YS YF P1 P2 Y1 Y2 Y3 Y4 Y5 Y6 Y7 Y8 Y9 Y10 Y11 Y12 Y13 Y14 Y15 Y16 YU YV YW YX YZ PA YC YE YG YH Q4 Q5 Q6 Q7 Q8 Q9
theorem hf_dg (d:Dg):∀ c,c∈cDg d→HF c:=fun c hc=>by
 simp only [cDg,qK,zb,or_false] at hc;rcases hc with rfl | rfl<;>exact HF.sc _
theorem pN (l:List Dg):HF (lDg l):=HF.lst fun r hr c hc=>by
 obtain ⟨d,_,rfl⟩:=qE.1 hr;exact hf_dg d c hc
theorem qfP (a b:List Dg) (ha:a.length≤1000000):qt Tryz.prog 18 [lDg a,lDg b] (aB (decide (a=b))):=by
 refine qSQ Tryz.call18 Tryz.func18 rfl {} ?_;by_cases hn:a.length=b.length
 case neg =>
  simp [go_sem,hn];rw [decide_eq_false (by rintro rfl;exact hn rfl)];exact .hf _ (HF.sc _)
 simp [go_sem,hn];refine qD.upK a.length (fun k st=>st.tm 0=lDg a∧st.tm 1=lDg b∧st.tm 5=aI k∧st.mu=[]∧∀(i:Nat) (h:i<a.length) (h':i<b.length),i<k→a[i]=b[i]) ?_ ?_
 ·exact ⟨by simp [go_sem],by simp [go_sem],by simp [go_sem],by simp [go_sem],fun i _ _ h=>by omega⟩
 rintro k st hk ⟨e0,e1,e5,hm,he⟩;by_cases hkl:k=a.length
 ·subst hkl
  simp [go_sem,e0,e1,e5,hm];rw [decide_eq_true (List.ext_getElem hn fun i h h'=>he i h h' h)];exact .hf _ (HF.sc _)
 ·have hlt:k<a.length:=by omega
  have hlb:k<b.length:=by omega
  have w1:IntKind.i64.wrap ((k:Int)+1)=(k:Int)+1:=qy (by omega) (by omega);simp [go_sem,e0,e1,e5,hm,hlt,hlb];refine qx.intro (by kernel_rfl) ?_;by_cases h1:a[k].1=b[k].1
  ·by_cases h2:a[k].2=b[k].2
   ·simp [go_sem,e0,e1,e5,hm,hlt,hlb,h1,h2,w1]
    refine Keep.mk' ⟨by simp [go_sem,e0],by simp [go_sem,e1],by simp [go_sem],by simp [go_sem,hm],fun i hi hi' hik=>?_⟩;rcases Nat.lt_succ_iff_lt_or_eq.1 hik with h3 | h3
    ·exact he i hi hi' h3
    ·subst h3;exact Prod.ext h1 h2
   ·simp [go_sem,e0,e1,e5,hm,hlt,hlb,h1,h2]
    rw [decide_eq_false (by rintro rfl;exact h2 rfl)];exact .hf _ (HF.sc _)
  ·simp [go_sem,e0,e1,e5,hm,hlt,hlb,h1]
   rw [decide_eq_false (by rintro rfl;exact h1 rfl)];exact .hf _ (HF.sc _)
theorem Yh (l:List (List Int)):HF (lL l):=HF.lst fun r hr c hc=>by
 obtain ⟨x,_,rfl⟩:=qE.1 hr;rw [zj] at hc;subst hc;exact j9 x
theorem qfQ {ts:TS} (h:okTS ts) {n:Nd} (hw:WfN n) {env:List (ByteArray×Int)} (he:vB ts.sorts.length env):(yo ts env n).1.length≤64∧∀ x,x∈(yo ts env n).1→x.length≤3:=by
 unfold yo;split
 ·simp
 ·rename_i hop
  split
  ·simp
  ·rename_i k hk
   have hck:=vO h (qB ts.preds.length);obtain ⟨q,hq,hok⟩:=vR hck (szN n) n _ false _ (qB _) hw (Zq he) hk (kE hw hop);cases hq;have h64:=okKd.le64 hok h.ns;have har:=hok.ar;refine ⟨by simp only [Zs];rw [(Vf _).length_eq,jn];exact h64,fun x hx=>?_⟩;have hx:x∈k.ts.map (rowT k):=(Vf _).mem_iff.1 hx;obtain ⟨t,_,rfl⟩:=qE.1 hx;simp only [rowT,List.length_take];omega
  ·simp
theorem YL {mu:Mu}:∀{xs ys:List AV},Rds mu xs ys→ys.length=xs.length∧∀(k:Nat) x y,xs[k]?=some x→ys[k]?=some y→Rd mu x y
 | [],[],_=>⟨rfl,fun k x y h=>by simp at h⟩
 |x :: xs,y :: ys,⟨h,t⟩=>by
  obtain ⟨h1,h2⟩:=YL t;refine ⟨by simp [h1],fun k a b ha hb=>?_⟩;cases k with
  |zero=>simp at ha hb;subst ha;subst hb;exact h
  |succ k=>exact h2 k a b (by simpa using ha) (by simpa using hb)
 | [],_ :: _,h=>h.elim
 |_ :: _,[],h=>h.elim
theorem pO {mu:Mu}:∀{xs ys xs' ys':List AV},Rds mu xs ys→Rds mu xs' ys'→Rds mu (xs++xs') (ys++ys')
 | [],[],_,_,_,h'=>h'
 |_ :: _,_ :: _,_,_,⟨h,t⟩,h'=>⟨h,pO t h'⟩
 | [],_ :: _,_,_,h,_=>h.elim
 |_ :: _,[],_,_,h,_=>h.elim
theorem qfS {mu:Mu} {xs ys:List AV} (h:Rds mu xs ys):Rd mu (.agg xs) (.agg ys) := .agg _ _ (YL h).1 (YL h).2
def RdR (mu:Mu):List (List AV)→List (List AV)→Prop
 | [],[]=>True
 |x :: xs,y :: ys=>Rds mu x y∧RdR mu xs ys
 |_,_=>False
theorem pP {mu:Mu}:∀{xs ys:List (List AV)},RdR mu xs ys→ys.length=xs.length∧(∀(k:Nat) x y,xs[k]?=some x→ys[k]?=some y→x.length=y.length)∧Rds mu xs.flatten ys.flatten
 | [],[],_=>⟨rfl,fun k x y h=>by simp at h,trivial⟩
 |x :: xs,y :: ys,⟨h,t⟩=>by
  obtain ⟨h1,h2,h3⟩:=pP t;refine ⟨by simp [h1],fun k a b ha hb=>?_,by rw [List.flatten_cons,List.flatten_cons];exact pO h h3⟩;cases k with
  |zero=>simp at ha hb;subst ha;subst hb;exact (YL h).1.symm
  |succ k=>exact h2 k a b (by simpa using ha) (by simpa using hb)
 | [],_ :: _,h=>h.elim
 |_ :: _,[],h=>h.elim
theorem ZC {mu:Mu} {full:Bool} {xs ys:List (List AV)} (h:RdR mu xs ys):Rd mu (.lst full xs) (.lst false ys):=by
 obtain ⟨h1,h2,h3⟩:=pP h;exact .wk _ full _ (.lst full xs ys h1 h2 (YL h3).2)
theorem pQ {mu:Mu}:∀{xs:List AV},(∀ x,x∈xs→HF x)→Rds mu xs xs
 | [],_=>trivial
 |x :: xs,h=>⟨.hf _ (h x (zG ..)),pQ fun y hy=>h y (zt _ hy)⟩
theorem ug {mu:Mu} (v:Value):Rd mu (.sc v) (.sc v) := .hf _ (HF.sc v)
def bA:ByteArray:=⟨#[65]⟩
def bB:ByteArray:=⟨#[66]⟩
def bf:ByteArray:=⟨#[102]⟩
def bp:ByteArray:=⟨#[112]⟩
def bx:ByteArray:=⟨#[120]⟩
def zE:TS:=⟨[(bA,false),(bB,true)],[⟨bf,[0,1],false⟩],[⟨bp,[(bx,0)],ndOp 34 [ndOp 9 [q9 bx 7,q9 bf 9]]⟩],[]⟩
theorem qfT:qt Tryz.prog 33 [] (eTS zE):=by
 refine qSQ Tryz.call33 Tryz.func33 rfl {} ?_;simp [go_sem];refine qc.pure (useU bx 7) (.cons (.hf (HF.sc _)) (.cons (.hf (HF.sc _)) .nil)) ?_;simp [go_sem];refine qc.pure (useU bf 9) (.cons (.hf (HF.sc _)) (.cons (.hf (HF.sc _)) .nil)) ?_;simp [go_sem];have wkN:∀ l:List Nd,WK (.lst true (l.map cNd)) (lNd l):=fun l=>WK.lst fun r hr c hc=>by
  obtain ⟨n,_,rfl⟩:=qE.1 hr;exact jb n c hc
 refine qc.pure (vS 9 [q9 bx 7,q9 bf 9]) (.cons (.hf (HF.sc _)) (.cons (wkN [q9 bx 7,q9 bf 9]) .nil)) ?_;simp [go_sem];refine qc.pure (vS 34 [ndOp 9 [q9 bx 7,q9 bf 9]]) (.cons (.hf (HF.sc _)) (.cons (wkN [ndOp 9 [q9 bx 7,q9 bf 9]]) .nil)) ?_;simp [go_sem,qr];refine qfS ⟨ZC ⟨⟨ug _,ug _,trivial⟩,⟨ug _,ug _,trivial⟩,trivial⟩,ZC ⟨⟨ug _,ZC ⟨⟨ug _,trivial⟩,⟨ug _,trivial⟩,trivial⟩,ug _,trivial⟩,trivial⟩,
  ZC ⟨⟨ug _,ZC ⟨⟨ug _,ug _,trivial⟩,trivial⟩,pQ (jb _)⟩,trivial⟩,ZC trivial,trivial⟩
end Go.Proofs.YtcfopdccdeeleaaGreatDoor.QA


namespace Go.Proofs.YtcfopdccdeeleaaGreatDoor.QB
open Go Go.Ev Go.Proofs Go.Proofs.YtcfopdccdeeleaaGreatDoor P1 P2 Y1 Y2 Y3 Y4 YF Y9 Y14 Y16 YW YX YZ YA YB PA YC YE YG YH Q4 Q5 Q6 Q7 Q8 Q9 QA
def nT:Nd:=ndOp 9 [q9 bA 0,q9 bf 0]
def nU:Nd:=ndOp 9 [q9 bf 0,q9 bf 0]
def bBf:ByteArray:=⟨#[66,95,102,105,114,115,116]⟩
def bAf:ByteArray:=⟨#[65,95,102,105,114,115,116]⟩
def bBn:ByteArray:=⟨#[66,95,110,101,120,116]⟩
def bv1:ByteArray:=⟨#[118,49]⟩
def bz:ByteArray:=⟨#[122]⟩
def ba:ByteArray:=⟨#[97]⟩
def nS:Nd:=ndOp 6 [q9 bf 0,q9 bBf 0]
def nD:Nd:=ndOp 34 [.mk 6 ⟨#[]⟩ 0 [q9 bf 5,q9 bA 9] 7]
def nN:Nd:=ndOp 35 [q9 bAf 3]
def nK:Nd := .mk 47 bp 0 [q9 bB 6] 4
def nM:Nd:=ndOp 34 [ndOp 12 [.mk 5 ⟨#[]⟩ 0 [q9 bBn 6] 8]]
def nC:Nd := .mk 45 bf 0 [q9 bA 2,.mk 47 bp 0 [q9 bf 5] 3] 1
def nW:Nd := .mk 45 bv1 0 [q9 bA 2,ndOp 34 [ndOp 9 [q9 bv1 5,q9 bf 9]]] 1
def nZ:Nd:=ndOp 35 [q9 bz 2]
def ZD:TS:=wf zE [(ba,nC),(ba,nZ)]
theorem f1:yo zE [] nT=([[1]],0):=by decide +kernel
theorem f2:yo zE [] nU=([],0):=by decide +kernel
theorem f3:yo zE [(bf,1)] nS=([[1]],0):=by decide +kernel
theorem f4:yK zE [] nD=(42,7):=by decide +kernel
theorem f5:yK zE [] nN=(40,3):=by decide +kernel
theorem f6:yK zE [] nK=(43,4):=by decide +kernel
theorem f7:yK zE [] nM=(46,8):=by decide +kernel
theorem f8:jf ZD=[(41,0),(40,2)]:=by decide +kernel
theorem c0:(yK zE [] nC).1=0:=by decide +kernel
theorem h47:anyN (fun n=>decide (n.op=47)) nC=true:=by decide +kernel
theorem f9:eqN (jw zE nC).1 nW=true∧(jw zE nC).2=0:=by decide +kernel
def qfU (ts:TS) (n:Nd):Bool:=(preN n).all fun x=>if x.op=47 then (match ts.preds.find? fun p=>decide (p.name=x.name) with | some p=>decide (p.params.length=x.kids.length) | none=>false) else true
theorem pR {ts:TS} {n:Nd} (h:qfU ts n=true):yv ts n:=fun x hx ho=>by
 have:=List.all_eq_true.1 h x hx;rw [if_pos ho] at this;split at this
 ·rename_i p hp;exact ⟨p,hp,by simpa using this⟩
 ·cases this
theorem qfV:okTS zE∧(∀ p,p∈zE.preds→WfN p.body)∧∀ f,f∈zE.facts→WfN f.2:=Wx (by decide +kernel) (by decide +kernel)
theorem WL:okTS ZD∧(∀ p,p∈ZD.preds→WfN p.body)∧∀ f,f∈ZD.facts→WfN f.2:=Wx (by decide +kernel) (by decide +kernel)
theorem wkNd (l:List Nd):WK (.lst true (l.map cNd)) (lNd l):=WK.lst fun r hr c hc=>by
 obtain ⟨n,_,rfl⟩:=qE.1 hr;exact jb n c hc
theorem ZE:WK (.lst true []) (lPm []):=WK.lst fun r hr=>absurd hr zb
def WkR:List (List AV)→List (List AV)→Prop
 | [],[]=>True
 |x :: xs,y :: ys=>WKs x y∧WkR xs ys
 |_,_=>False
theorem pS:∀{xs ys xs' ys':List AV},WKs xs ys→WKs xs' ys'→WKs (xs++xs') (ys++ys')
 | [],[],_,_,_,h'=>h'
 |_ :: _,_ :: _,_,_,⟨h,t⟩,h'=>⟨h,pS t h'⟩
 | [],_ :: _,_,_,h,_=>h.elim
 |_ :: _,[],_,_,h,_=>h.elim
theorem pT:∀{xs ys:List (List AV)},WkR xs ys→ys.length=xs.length∧(∀(k:Nat) x y,xs[k]?=some x→ys[k]?=some y→x.length=y.length)∧WKs xs.flatten ys.flatten
 | [],[],_=>⟨rfl,fun k x y h=>by simp at h,trivial⟩
 |x :: xs,y :: ys,⟨h,t⟩=>by
  obtain ⟨h1,h2,h3⟩:=pT t;refine ⟨by simp [h1],fun k a b ha hb=>?_,by rw [List.flatten_cons,List.flatten_cons];exact pS h h3⟩;cases k with
  |zero=>simp at ha hb;subst ha;subst hb;exact h.get.1.symm
  |succ k=>exact h2 k a b (by simpa using ha) (by simpa using hb)
 | [],_ :: _,h=>h.elim
 |_ :: _,[],h=>h.elim
theorem wD {full:Bool} {xs ys:List (List AV)} (h:WkR xs ys):WK (.lst full xs) (.lst false ys):=by
 obtain ⟨hn,hz,h3⟩:=pT h;have hfl:=XJ hn hz;have hg:=h3.get.2;intro G hp v r;cases r with
 |nil=>cases ys with
  |nil=>exact .nil _
  |cons=>simp at hn
 |emp _ a cap hc=>cases ys with
  |nil=>exact .emp _ a cap (by simp)
  |cons=>simp at hn
 |lst _ _ sz a cap cs e fr rd hb hs hl hc hi hz' hr hv =>
  rw [←hn];have hget:∀(k:Nat) y,ys.flatten[k]?=some y→∃ x,xs.flatten[k]?=some x:=by
   intro k y hy;have hk:k<ys.flatten.length:=(qv.1 hy).1;exact ⟨xs.flatten[k]'(by omega),by simp only [qX (show k<xs.flatten.length by omega)]⟩
  refine .lst false ys sz a cap cs e fr rd hb hs (by omega) (by simp) hi ?_ ?_ ?_
  ·intro r hr'
   obtain ⟨k,hk⟩:=List.mem_iff_getElem?.1 hr';have hkl:k<ys.length:=(qv.1 hk).1;have hx:xs[k]?=some (xs[k]'(by omega)):=by simp [show k<xs.length by omega]
   rw [←hz k _ r hx hk];exact hz' _ (ze hx)
  ·intro k y hy
   obtain ⟨x,hx⟩:=hget k y hy;exact hr k x hx
  ·intro k y hy
   obtain ⟨x,hx⟩:=hget k y hy;exact hg k x y hx hy G hp _ (hv k x hx)
theorem YO:∀{xs:List AV},(∀ x,x∈xs→HF x)→WKs xs xs
 | [],_=>trivial
 |x :: xs,h=>⟨.hf (h x (zG ..)),YO fun y hy=>h y (zt _ hy)⟩
theorem ZF (op:Int) (nm:ByteArray) (n:Int) {ks:AV} {l:List Nd} (p:Int) (h:WK ks (lNd l)):WKs [aI op,aS nm,aI n,ks,aI p] (cNd (.mk op nm n l p)):=by
 rw [yk];exact ⟨.hf (HF.sc _),.hf (HF.sc _),.hf (HF.sc _),h,.hf (HF.sc _),trivial⟩
theorem WM (op:Int) (nm:ByteArray) (n:Int) {ks:AV} {l:List Nd} (p:Int) (h:WK ks (lNd l)):WK (.agg [aI op,aS nm,aI n,ks,aI p]) (eNd (.mk op nm n l p)):=WK.aggs (ZF op nm n p h)
theorem qfW {ts:TS} (hb:∀ p,p∈ts.preds→WfN p.body) {n:Nd} (hw:WfN n):Small (jw ts n).1:=by
 have h0:Small nd0 := .mk _ (by simp [nd0,Nd.kids]) fun k hk=>by simp [nd0,Nd.kids] at hk
 unfold jw;split
 ·exact h0
 ·split
  ·exact hw.small
  ·split
   ·exact h0
   ·rename_i n' hn
    unfold outI at hn;split at hn
    ·cases hn
    ·rename_i q z s' he
     split at hn
     ·cases hn
      exact (Qk ts hb _ 4001 (fun e he=>absurd he zb) hw he).2
     ·cases hn
theorem headU:qt Tryz.prog 11 [] (aB true):=by
 obtain ⟨ok,wp,_⟩:=qfV;have e0:vB zE.sorts.length []:=⟨by simp,by simp⟩;have e1:vB zE.sorts.length [(bf,1)]:=⟨by simp,by simp [zE]⟩;have t1:=Vi zE ok wp nT (vd (by decide +kernel)) [] e0;have t2:=Vi zE ok wp nU (vd (by decide +kernel)) [] e0;have t3:=Vi zE ok wp nS (vd (by decide +kernel)) [(bf,1)] e1;have t4:=Qg zE ok wp nD (vd (by decide +kernel)) [] e0;have t5:=Qg zE ok wp nN (vd (by decide +kernel)) [] e0;have t6:=Qg zE ok wp nK (vd (by decide +kernel)) [] e0;have t7:=Qg zE ok wp nM (vd (by decide +kernel)) [] e0;have t8:=kz ZD WL.1 WL.2.1 WL.2.2;have t9:=pw zE ok (fun p hp=>⟨wp p hp,by
  have:p=⟨bp,[(bx,0)],ndOp 34 [ndOp 9 [q9 bx 7,q9 bf 9]]⟩:=by simpa [zE] using hp
  subst this;exact pR (by decide +kernel)⟩) nC (vd (by decide +kernel)) (fun _=>pR (by decide +kernel)) (by decide +kernel)
 have t10:=Wv (szN (jw zE nC).1) (jw zE nC).1 nW (qB _) (qfW wp (vd (by decide +kernel)));obtain ⟨q1,q2⟩:=f9;rw [f1] at t1;rw [f2] at t2;rw [f3] at t3;rw [f4] at t4;rw [f5] at t5;rw [f6] at t6;rw [f7] at t7;rw [f8] at t8;rw [q1] at t10;rw [q2] at t9;clear q1 q2;generalize (jw zE nC).1=X at *
 refine qSQ Tryz.call11 Tryz.func11 rfl {} ?_;simp [go_sem];refine qc.pure qfT .nil ?_;simp [go_sem];refine qx.intro (by kernel_rfl) ?_;simp [go_sem];refine qc.pure (useU bA 0) (.cons (.hf (HF.sc _)) (.cons (.hf (HF.sc _)) .nil)) ?_;simp [go_sem];refine qc.pure (useU bf 0) (.cons (.hf (HF.sc _)) (.cons (.hf (HF.sc _)) .nil)) ?_;simp [go_sem];refine qc.pure (vS 9 [q9 bA 0,q9 bf 0]) (.cons (.hf (HF.sc _)) (.cons (wkNd [q9 bA 0,q9 bf 0]) .nil)) ?_;simp [go_sem];refine qc.pure t1 (.cons (.hf (zq zE)) (.cons ZE (.cons (.hf (qO nT)) .nil))) ?_;simp [go_sem];refine qx.intro (by kernel_rfl) ?_;simp [go_sem];refine qc.pure (useU bf 0) (.cons (.hf (HF.sc _)) (.cons (.hf (HF.sc _)) .nil)) ?_;simp [go_sem];refine qc.pure (useU bf 0) (.cons (.hf (HF.sc _)) (.cons (.hf (HF.sc _)) .nil)) ?_;simp [go_sem];refine qc.pure (vS 9 [q9 bf 0,q9 bf 0]) (.cons (.hf (HF.sc _)) (.cons (wkNd [q9 bf 0,q9 bf 0]) .nil)) ?_;simp [go_sem];refine qc.pure t2 (.cons (.hf (zq zE)) (.cons ZE (.cons (.hf (qO nU)) .nil))) ?_;simp [go_sem];refine qx.intro (by kernel_rfl) ?_;simp [go_sem];refine qc.pure (useU bf 0) (.cons (.hf (HF.sc _)) (.cons (.hf (HF.sc _)) .nil)) ?_;simp [go_sem];refine qc.pure (useU bBf 0) (.cons (.hf (HF.sc _)) (.cons (.hf (HF.sc _)) .nil)) ?_;simp [go_sem];refine qc.pure (vS 6 [q9 bf 0,q9 bBf 0]) (.cons (.hf (HF.sc _)) (.cons (wkNd [q9 bf 0,q9 bBf 0]) .nil)) ?_;simp [go_sem];refine qc.pure t3 (.cons (.hf (zq zE)) (.cons (wD (xs:=[cPm (bf,1)]) (ys:=[cPm (bf,1)]) ⟨YO (wu _),trivial⟩) (.cons (.hf (qO nS)) .nil))) ?_;simp [go_sem];refine qx.intro (by kernel_rfl) ?_;simp [go_sem];refine qc.pure (useU bf 5) (.cons (.hf (HF.sc _)) (.cons (.hf (HF.sc _)) .nil)) ?_;simp [go_sem];refine qc.pure (useU bA 9) (.cons (.hf (HF.sc _)) (.cons (.hf (HF.sc _)) .nil)) ?_;simp [go_sem];refine qc.pure (vS 34 [.mk 6 ⟨#[]⟩ 0 [q9 bf 5,q9 bA 9] 7]) (.cons (.hf (HF.sc _)) (.cons (wD ⟨ZF 6 ⟨#[]⟩ 0 7 (wkNd [q9 bf 5,q9 bA 9]),trivial⟩) .nil)) ?_;simp [go_sem];refine qc.pure t4 (.cons (.hf (zq zE)) (.cons ZE (.cons (.hf (qO nD)) .nil))) ?_;simp [go_sem,qr];refine qx.intro (by kernel_rfl) ?_;simp [go_sem];refine qc.pure (useU bAf 3) (.cons (.hf (HF.sc _)) (.cons (.hf (HF.sc _)) .nil)) ?_;simp [go_sem];refine qc.pure (vS 35 [q9 bAf 3]) (.cons (.hf (HF.sc _)) (.cons (wkNd [q9 bAf 3]) .nil)) ?_;simp [go_sem];refine qc.pure t5 (.cons (.hf (zq zE)) (.cons ZE (.cons (.hf (qO nN)) .nil))) ?_;simp [go_sem,qr];refine qx.intro (by kernel_rfl) ?_;simp [go_sem];refine qc.pure (useU bB 6) (.cons (.hf (HF.sc _)) (.cons (.hf (HF.sc _)) .nil)) ?_;simp [go_sem];refine qc.pure t6 (.cons (.hf (zq zE)) (.cons ZE (.cons (WM 47 bp 0 4 (wkNd [q9 bB 6])) .nil))) ?_;simp [go_sem,qr];refine qx.intro (by kernel_rfl) ?_;simp [go_sem];refine qc.pure (useU bBn 6) (.cons (.hf (HF.sc _)) (.cons (.hf (HF.sc _)) .nil)) ?_;simp [go_sem];refine qc.pure (vS 12 [.mk 5 ⟨#[]⟩ 0 [q9 bBn 6] 8]) (.cons (.hf (HF.sc _)) (.cons (wD ⟨ZF 5 ⟨#[]⟩ 0 8 (wkNd [q9 bBn 6]),trivial⟩) .nil)) ?_;simp [go_sem]
 refine qc.pure (vS 34 [ndOp 12 [.mk 5 ⟨#[]⟩ 0 [q9 bBn 6] 8]]) (.cons (.hf (HF.sc _)) (.cons (wkNd [ndOp 12 [.mk 5 ⟨#[]⟩ 0 [q9 bBn 6] 8]]) .nil)) ?_;simp [go_sem];refine qc.pure t7 (.cons (.hf (zq zE)) (.cons ZE (.cons (.hf (qO nM)) .nil))) ?_;simp [go_sem,qr];refine qc.pure (useU bA 2) (.cons (.hf (HF.sc _)) (.cons (.hf (HF.sc _)) .nil)) ?_;simp [go_sem];refine qc.pure (useU bf 5) (.cons (.hf (HF.sc _)) (.cons (.hf (HF.sc _)) .nil)) ?_;simp [go_sem];refine qc.pure t9 (.cons (.hf (zq zE)) (.cons (WM 45 bf 0 1 (wD ⟨YO (jb (q9 bA 2)),ZF 47 bp 0 3 (wkNd [q9 bf 5]),trivial⟩)) .nil)) ?_;simp [go_sem,qr];refine qc.pure (useU bA 2) (.cons (.hf (HF.sc _)) (.cons (.hf (HF.sc _)) .nil)) ?_;simp [go_sem];refine qc.pure (useU bv1 5) (.cons (.hf (HF.sc _)) (.cons (.hf (HF.sc _)) .nil)) ?_;simp [go_sem];refine qc.pure (useU bf 9) (.cons (.hf (HF.sc _)) (.cons (.hf (HF.sc _)) .nil)) ?_;simp [go_sem];refine qc.pure (vS 9 [q9 bv1 5,q9 bf 9]) (.cons (.hf (HF.sc _)) (.cons (wkNd [q9 bv1 5,q9 bf 9]) .nil)) ?_;simp [go_sem];refine qc.pure (vS 34 [ndOp 9 [q9 bv1 5,q9 bf 9]]) (.cons (.hf (HF.sc _)) (.cons (wkNd [ndOp 9 [q9 bv1 5,q9 bf 9]]) .nil)) ?_;simp [go_sem];refine qx.intro (by kernel_rfl) ?_;simp [go_sem];refine qc.pure (useU bz 2) (.cons (.hf (HF.sc _)) (.cons (.hf (HF.sc _)) .nil)) ?_;simp [go_sem];refine qc.pure (vS 35 [q9 bz 2]) (.cons (.hf (HF.sc _)) (.cons (wkNd [q9 bz 2]) .nil)) ?_;simp [go_sem];have wspec:WK (.agg [lSo zE.sorts,lFl zE.fields,lPd zE.preds,.lst true [[aS ba,aI 45,aS bf,aI 0,.lst true [cNd (q9 bA 2),[aI 47,aS bp,aI 0,.lst true [cNd (q9 bf 5)],aI 3]],aI 1],aS ba :: cNd nZ]]) (eTS ZD):=
  WK.aggs ⟨.hf (w6 _),.hf (w7 _),.hf (ua _),wD ⟨⟨.hf (HF.sc _),ZF 45 bf 0 1 (wD ⟨YO (jb (q9 bA 2)),ZF 47 bp 0 3 (wkNd [q9 bf 5]),trivial⟩)⟩,⟨.hf (HF.sc _),YO (jb nZ)⟩,trivial⟩,trivial⟩
 refine qc.pure t8 (.cons wspec .nil) ?_;simp [go_sem];have wrow:WKs [lL [[1]],.lst true [[.lst true [[aI 1]]]]] [lL [[1]],lL [[1]]]:=⟨.hf (QA.Yh _),wD ⟨⟨wD ⟨⟨.hf (HF.sc _),trivial⟩,trivial⟩,trivial⟩,trivial⟩,trivial⟩;have hst:=kQ [[1]] [[1]] (by simp) (by simp);rw [decide_eq_true rfl] at hst;refine qc.pure hst wrow ?_;simp [go_sem];refine qc.pure hst wrow ?_;simp [go_sem,qr];refine qc.pure t10 (.cons (.hf (qO X)) (.cons (WM 45 bv1 0 1 (wkNd [q9 bA 2,ndOp 34 [ndOp 9 [q9 bv1 5,q9 bf 9]]])) (.cons (.hf (HF.sc _)) .nil))) ?_;simp [go_sem,qr];exact .hf _ (HF.sc _)
end Go.Proofs.YtcfopdccdeeleaaGreatDoor.QB
