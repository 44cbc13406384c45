/-
  Own library, part 6: an abstract reading of values and a calculus over it; contracts of functions; plain lemmas.
-/
import Derived.Test.YtcfopdccdeeleaaGreatDoorMe
set_option linter.unusedVariables false
set_option linter.unusedSimpArgs false
set_option maxRecDepth 100000


open List renaming getElem?_eq_some_iff→qv,getElem?_append_left→qz,mem_map→qE,getElem_mem→qJ,mem_cons→qK,getElem?_set_ne→qL,getElem?_eq_getElem→qX,not_mem_nil→zb,getElem?_set_self→zd,mem_append→zh,mem_singleton→zj,length_append→zr,mem_cons_of_mem→zt,drop_eq_getElem_cons→zA,mem_cons_self→zG,take_of_length_le→y5,take_length→jC,getElem_append_left→nF
open Nat renaming le_refl→qB
namespace Go.Proofs.YtcfopdccdeeleaaGreatDoor.QC
open Go Go.Ev Go.Proofs Go.Proofs.YtcfopdccdeeleaaGreatDoor YM YS YF P1 P2 Y1 Y2 Y3 Y4 Y5 Y6 Y9 Y16 PA YD Q4
theorem YP {mu:Mu} {av:AV} {op i p:Int} {nm:ByteArray} {ks:List Nd} {lo:Nat} (go:OwnF lo mu 5 av (ks.map cNd)):Rd mu (.agg [aI op,aS nm,aI i,av,aI p]) (eNd (.mk op nm i ks p)):=by
 have ecn:eNd (.mk op nm i ks p) = .agg [aI op,aS nm,aI i,.lst false (ks.map cNd),aI p]:=by
  show AV.agg (cNd _)=_;rw [yk];rfl
 rw [ecn];refine .agg _ _ rfl fun k x y hx hy=>?_
 match k with
 | 0=>simp at hx hy;subst hx;subst hy;exact .hf _ (HF.sc _)
 | 1=>simp at hx hy;subst hx;subst hy;exact .hf _ (HF.sc _)
 | 2=>simp at hx hy;subst hx;subst hy;exact .hf _ (HF.sc _)
 | 3 =>
  simp at hx hy;subst hx;subst hy;exact Own.rd (sz:=5) go.1 (Yz ks).ok fun r hr c hc=>by
   obtain ⟨x,_,rfl⟩:=qE.1 hr;exact jb x c hc
 | 4=>simp at hx hy;subst hx;subst hy;exact .hf _ (HF.sc _)
 |k+5=>simp at hx
theorem WC (a b:ByteArray):∀(m:Nat) (n:Nd),szN n≤m→Small n→qt Tryz.prog 30 [eNd n,aS a,aS b] (eNd (renN a b n))
 | 0,n,hm,_=>by obtain ⟨op,nm,i,ks,p⟩:=n;simp [szN] at hm
 |m+1,n,hm,hs=>by
  have ih:∀ k,k∈n.kids→qt Tryz.prog 30 [eNd k,aS a,aS b] (eNd (renN a b k)):=fun k hk =>
   WC a b m k (by have:=yu hk;omega) (hs.kid hk)
  have hlen:=hs.len;generalize hR:renN a b n=R;rw [qeG] at hR;have hcn:=yk n;refine qSQ Tryz.call30 Tryz.func30 rfl { mt:=[3] } ?_;by_cases h1:n.op=1∧n.name=a
  ·rw [if_pos h1] at hR
   obtain ⟨h1,h2⟩:=h1;simp [go_sem,h1,h2,hcn];rw [←hR];have e:eNd (.mk n.op b n.n n.kids n.pos)=AV.agg [aI 1,AV.sc (Value.string b),aI n.n,AV.lst false (List.map cNd n.kids),aI n.pos]:=by
    show AV.agg (cNd _)=_;rw [yk,h1];rfl
   rw [←e];exact .hf _ (qO _)
  rw [if_neg h1] at hR;have hB:∃ B,binB n.op=B∧B=decide (n.op=15∨n.op=45∨n.op=46):=⟨_,rfl,(Vt _).symm⟩;rcases (show (n.op=1∧n.name≠a)∨n.op=15∨n.op=45∨n.op=46∨(n.op≠1∧n.op≠15∧n.op≠45∧n.op≠46) by
   by_cases ho:n.op=1
   ·exact .inl ⟨ho,fun e=>h1 ⟨ho,e⟩⟩
   ·omega) with h | h | h | h | h
  ·obtain ⟨h,hne⟩:=h
   have hbin:binB n.op=false:=by rw [h];rfl
   simp [go_sem,h,zL hne,hcn];refine qD.upK n.kids.length (fun k st=>∃(acc:List Nd) (av:AV),st.tm 1=aS a∧st.tm 2=aS b∧st.tm 3 = .ptr 0 0∧st.tm 6 = .ptr 1 0∧st.tm 7=aB (binB n.op)∧st.tm 8=av∧st.tm 9=aI k∧st.mu[0]?=some (.arr [aI n.op,aS n.name,aI n.n,lNd n.kids,aI n.pos])∧st.mu[1]?=some (.arr [aI 0,aS ⟨#[]⟩,aI 0,.lst true [],aI 0])∧OwnF 2 st.mu 5 av (acc.map cNd)∧acc.length=k ∧ .mk n.op n.name n.n (acc++yM a b (binB n.op&&decide (n.name=a)) k (n.kids.drop k)) n.pos=R) ?_ ?_
   ·exact ⟨[],.lst true [],by simp [go_sem],by simp [go_sem],by simp [go_sem],by simp [go_sem],by simp [go_sem,hbin],by simp [go_sem],by simp [go_sem],by simp [go_sem,h],by simp [go_sem],OwnF.nil (by simp [go_sem]),rfl,by simpa using hR⟩
   clear hR;rintro k st hk ⟨acc,av,e1,e2,e3,e6,e7,e8,e9,gn,gr,ho,hal,hI⟩;have hbl:=ho.2.2;by_cases hkl:k=n.kids.length
   ·subst hkl
    rw [List.drop_length] at hI;have hI:R = .mk n.op n.name n.n acc n.pos:=by rw [←hI];simp [yM]
    have hcc:=ho.cells;have hon:=ho.one;have hs0:∀ c,(st.mu.set 0 c)[0]?=some c:=fun c=>zd (by omega)
    have hs1:∀ c c',((st.mu.set 0 c).set 1 c')[1]?=some c':=fun c c'=>zd (by simp;omega)
    have hs01:∀ c,(st.mu.set 0 c)[1]?=st.mu[1]?:=fun c=>qL (by omega)
    rw [hI];simp [go_sem,e1,e2,e3,e6,e7,e8,e9,gn,gr,hcc,hon,hs0,hs1,hs01];exact YP ((ho.set (by omega)).set (by omega))
   have hlt:k<n.kids.length:=by omega
   have w1:IntKind.i64.wrap ((k:Int)+1)=(k:Int)+1:=qy (by omega) (by omega);have hlt':(k:Int)<n.kids.length:=by omega
   have hi:=ih n.kids[k] (qJ hlt);rw [zA hlt] at hI;simp only [yM] at hI;have done:∀(x:Nd),(if (binB n.op&&decide (n.name=a))=true∧k=1 then n.kids[k] else renN a b n.kids[k])=x → .mk n.op n.name n.n ((acc++[x])++yM a b (binB n.op&&decide (n.name=a)) (k+1) (n.kids.drop (k+1))) n.pos=R:=fun x hx=>by
    rw [hx] at hI;rw [←hI];simp
   simp [go_sem,e1,e2,e3,e6,e7,e8,e9,gn,gr,hlt,hlt',qr,hbin,w1];refine qc.pure hi (.cons (.hf (qO _)) (.cons (.hf (HF.sc _)) (.cons (.hf (HF.sc _)) .nil))) ?_;simp [go_sem,e1,e2,e3,e6,e7,e8,e9,gn,gr,hlt,hlt',qr,hbin,w1];refine jY ho (by omega) fun av' m' ho' hm'=>?_
   have gn':m'[0]?=some (.arr [aI n.op,aS n.name,aI n.n,lNd n.kids,aI n.pos]):=by rw [hm' 0 (by omega)];exact gn
   have gr':m'[1]?=some (.arr [aI 0,aS ⟨#[]⟩,aI 0,.lst true [],aI 0]):=by rw [hm' 1 (by omega)];exact gr
   simp [go_sem,e1,e2,e3,e6,e7,e8,e9,gn,gr,hlt,hlt',qr,hbin,w1];exact Keep.mk' ⟨acc++[renN a b n.kids[k]],av',by simp [go_sem,e1],by simp [go_sem,e2],by simp [go_sem,e3],by simp [go_sem,e6],by simp [go_sem,e7],by simp [go_sem],by simp [go_sem],by simpa [go_sem] using gn',by simpa [go_sem] using gr',by simpa [go_sem] using ho',by simp [hal],done _ (by simp [hbin])⟩
  ·have hbin:binB n.op=true:=by rw [h];rfl
   simp [go_sem,h,hcn];refine qD.upK n.kids.length (fun k st=>∃(acc:List Nd) (av:AV),st.tm 1=aS a∧st.tm 2=aS b∧st.tm 3 = .ptr 0 0∧st.tm 6 = .ptr 1 0∧st.tm 7=aB (binB n.op)∧st.tm 8=av∧st.tm 9=aI k∧st.mu[0]?=some (.arr [aI n.op,aS n.name,aI n.n,lNd n.kids,aI n.pos])∧st.mu[1]?=some (.arr [aI 0,aS ⟨#[]⟩,aI 0,.lst true [],aI 0])∧OwnF 2 st.mu 5 av (acc.map cNd)∧acc.length=k ∧ .mk n.op n.name n.n (acc++yM a b (binB n.op&&decide (n.name=a)) k (n.kids.drop k)) n.pos=R) ?_ ?_
   ·exact ⟨[],.lst true [],by simp [go_sem],by simp [go_sem],by simp [go_sem],by simp [go_sem],by simp [go_sem,hbin],by simp [go_sem],by simp [go_sem],by simp [go_sem,h],by simp [go_sem],OwnF.nil (by simp [go_sem]),rfl,by simpa using hR⟩
   clear hR;rintro k st hk ⟨acc,av,e1,e2,e3,e6,e7,e8,e9,gn,gr,ho,hal,hI⟩;have hbl:=ho.2.2;by_cases hkl:k=n.kids.length
   ·subst hkl
    rw [List.drop_length] at hI;have hI:R = .mk n.op n.name n.n acc n.pos:=by rw [←hI];simp [yM]
    have hcc:=ho.cells;have hon:=ho.one;have hs0:∀ c,(st.mu.set 0 c)[0]?=some c:=fun c=>zd (by omega)
    have hs1:∀ c c',((st.mu.set 0 c).set 1 c')[1]?=some c':=fun c c'=>zd (by simp;omega)
    have hs01:∀ c,(st.mu.set 0 c)[1]?=st.mu[1]?:=fun c=>qL (by omega)
    rw [hI];simp [go_sem,e1,e2,e3,e6,e7,e8,e9,gn,gr,hcc,hon,hs0,hs1,hs01];exact YP ((ho.set (by omega)).set (by omega))
   have hlt:k<n.kids.length:=by omega
   have w1:IntKind.i64.wrap ((k:Int)+1)=(k:Int)+1:=qy (by omega) (by omega);have hlt':(k:Int)<n.kids.length:=by omega
   have hi:=ih n.kids[k] (qJ hlt);rw [zA hlt] at hI;simp only [yM] at hI;have done:∀(x:Nd),(if (binB n.op&&decide (n.name=a))=true∧k=1 then n.kids[k] else renN a b n.kids[k])=x → .mk n.op n.name n.n ((acc++[x])++yM a b (binB n.op&&decide (n.name=a)) (k+1) (n.kids.drop (k+1))) n.pos=R:=fun x hx=>by
    rw [hx] at hI;rw [←hI];simp
   by_cases hk1:k=1
   ·subst hk1
    have z2:(1:Int)<n.kids.length:=by omega
    have z3:1<n.kids.length:=by omega
    have w2:IntKind.i64.wrap 2=2:=rfl;by_cases hna:n.name=a
    ·simp [go_sem,e1,e2,e3,e6,e7,e8,e9,gn,gr,hlt,hlt',qr,hbin,w1,z2,z3,w2,hna]
     refine jY ho (by omega) fun av' m' ho' hm'=>?_
     have gn':m'[0]?=some (.arr [aI n.op,aS n.name,aI n.n,lNd n.kids,aI n.pos]):=by rw [hm' 0 (by omega)];exact gn
     have gr':m'[1]?=some (.arr [aI 0,aS ⟨#[]⟩,aI 0,.lst true [],aI 0]):=by rw [hm' 1 (by omega)];exact gr
     simp [go_sem,e1,e2,e3,e6,e7,e8,e9,gn,gr,hlt,hlt',qr,hbin,w1,z2,z3,w2,hna];exact Keep.mk' ⟨acc++[n.kids[1]],av',by simp [go_sem,e1],by simp [go_sem,e2],by simp [go_sem,e3],by simp [go_sem,e6],by simp [go_sem,e7],by simp [go_sem],by simp [go_sem],by simpa [go_sem] using gn',by simpa [go_sem] using gr',by simpa [go_sem] using ho',by simp [hal],done _ (by simp [hna,hbin])⟩
    ·simp [go_sem,e1,e2,e3,e6,e7,e8,e9,gn,gr,hlt,hlt',qr,hbin,w1,z2,z3,w2,hna,zL hna]
     refine qc.pure hi (.cons (.hf (qO _)) (.cons (.hf (HF.sc _)) (.cons (.hf (HF.sc _)) .nil))) ?_;simp [go_sem,e1,e2,e3,e6,e7,e8,e9,gn,gr,hlt,hlt',qr,hbin,w1,z2,z3,w2,hna,zL hna];refine jY ho (by omega) fun av' m' ho' hm'=>?_
     have gn':m'[0]?=some (.arr [aI n.op,aS n.name,aI n.n,lNd n.kids,aI n.pos]):=by rw [hm' 0 (by omega)];exact gn
     have gr':m'[1]?=some (.arr [aI 0,aS ⟨#[]⟩,aI 0,.lst true [],aI 0]):=by rw [hm' 1 (by omega)];exact gr
     simp [go_sem,e1,e2,e3,e6,e7,e8,e9,gn,gr,hlt,hlt',qr,hbin,w1,z2,z3,w2,hna,zL hna];exact Keep.mk' ⟨acc++[renN a b n.kids[1]],av',by simp [go_sem,e1],by simp [go_sem,e2],by simp [go_sem,e3],by simp [go_sem,e6],by simp [go_sem,e7],by simp [go_sem],by simp [go_sem],by simpa [go_sem] using gn',by simpa [go_sem] using gr',by simpa [go_sem] using ho',by simp [hal],done _ (by simp [hna,zL hna,hbin])⟩
   ·simp [go_sem,e1,e2,e3,e6,e7,e8,e9,gn,gr,hlt,hlt',qr,hbin,w1,hk1,show ¬(k:Int)=1 by omega]
    refine qc.pure hi (.cons (.hf (qO _)) (.cons (.hf (HF.sc _)) (.cons (.hf (HF.sc _)) .nil))) ?_;simp [go_sem,e1,e2,e3,e6,e7,e8,e9,gn,gr,hlt,hlt',qr,hbin,w1,hk1,show ¬(k:Int)=1 by omega];refine jY ho (by omega) fun av' m' ho' hm'=>?_
    have gn':m'[0]?=some (.arr [aI n.op,aS n.name,aI n.n,lNd n.kids,aI n.pos]):=by rw [hm' 0 (by omega)];exact gn
    have gr':m'[1]?=some (.arr [aI 0,aS ⟨#[]⟩,aI 0,.lst true [],aI 0]):=by rw [hm' 1 (by omega)];exact gr
    simp [go_sem,e1,e2,e3,e6,e7,e8,e9,gn,gr,hlt,hlt',qr,hbin,w1,hk1,show ¬(k:Int)=1 by omega];exact Keep.mk' ⟨acc++[renN a b n.kids[k]],av',by simp [go_sem,e1],by simp [go_sem,e2],by simp [go_sem,e3],by simp [go_sem,e6],by simp [go_sem,e7],by simp [go_sem],by simp [go_sem],by simpa [go_sem] using gn',by simpa [go_sem] using gr',by simpa [go_sem] using ho',by simp [hal],done _ (by simp [hk1,show ¬(k:Int)=1 by omega,hbin])⟩
  ·have hbin:binB n.op=true:=by rw [h];rfl
   simp [go_sem,h,hcn];refine qD.upK n.kids.length (fun k st=>∃(acc:List Nd) (av:AV),st.tm 1=aS a∧st.tm 2=aS b∧st.tm 3 = .ptr 0 0∧st.tm 6 = .ptr 1 0∧st.tm 7=aB (binB n.op)∧st.tm 8=av∧st.tm 9=aI k∧st.mu[0]?=some (.arr [aI n.op,aS n.name,aI n.n,lNd n.kids,aI n.pos])∧st.mu[1]?=some (.arr [aI 0,aS ⟨#[]⟩,aI 0,.lst true [],aI 0])∧OwnF 2 st.mu 5 av (acc.map cNd)∧acc.length=k ∧ .mk n.op n.name n.n (acc++yM a b (binB n.op&&decide (n.name=a)) k (n.kids.drop k)) n.pos=R) ?_ ?_
   ·exact ⟨[],.lst true [],by simp [go_sem],by simp [go_sem],by simp [go_sem],by simp [go_sem],by simp [go_sem,hbin],by simp [go_sem],by simp [go_sem],by simp [go_sem,h],by simp [go_sem],OwnF.nil (by simp [go_sem]),rfl,by simpa using hR⟩
   clear hR;rintro k st hk ⟨acc,av,e1,e2,e3,e6,e7,e8,e9,gn,gr,ho,hal,hI⟩;have hbl:=ho.2.2;by_cases hkl:k=n.kids.length
   ·subst hkl
    rw [List.drop_length] at hI;have hI:R = .mk n.op n.name n.n acc n.pos:=by rw [←hI];simp [yM]
    have hcc:=ho.cells;have hon:=ho.one;have hs0:∀ c,(st.mu.set 0 c)[0]?=some c:=fun c=>zd (by omega)
    have hs1:∀ c c',((st.mu.set 0 c).set 1 c')[1]?=some c':=fun c c'=>zd (by simp;omega)
    have hs01:∀ c,(st.mu.set 0 c)[1]?=st.mu[1]?:=fun c=>qL (by omega)
    rw [hI];simp [go_sem,e1,e2,e3,e6,e7,e8,e9,gn,gr,hcc,hon,hs0,hs1,hs01];exact YP ((ho.set (by omega)).set (by omega))
   have hlt:k<n.kids.length:=by omega
   have w1:IntKind.i64.wrap ((k:Int)+1)=(k:Int)+1:=qy (by omega) (by omega);have hlt':(k:Int)<n.kids.length:=by omega
   have hi:=ih n.kids[k] (qJ hlt);rw [zA hlt] at hI;simp only [yM] at hI;have done:∀(x:Nd),(if (binB n.op&&decide (n.name=a))=true∧k=1 then n.kids[k] else renN a b n.kids[k])=x → .mk n.op n.name n.n ((acc++[x])++yM a b (binB n.op&&decide (n.name=a)) (k+1) (n.kids.drop (k+1))) n.pos=R:=fun x hx=>by
    rw [hx] at hI;rw [←hI];simp
   by_cases hk1:k=1
   ·subst hk1
    have z2:(1:Int)<n.kids.length:=by omega
    have z3:1<n.kids.length:=by omega
    have w2:IntKind.i64.wrap 2=2:=rfl;by_cases hna:n.name=a
    ·simp [go_sem,e1,e2,e3,e6,e7,e8,e9,gn,gr,hlt,hlt',qr,hbin,w1,z2,z3,w2,hna]
     refine jY ho (by omega) fun av' m' ho' hm'=>?_
     have gn':m'[0]?=some (.arr [aI n.op,aS n.name,aI n.n,lNd n.kids,aI n.pos]):=by rw [hm' 0 (by omega)];exact gn
     have gr':m'[1]?=some (.arr [aI 0,aS ⟨#[]⟩,aI 0,.lst true [],aI 0]):=by rw [hm' 1 (by omega)];exact gr
     simp [go_sem,e1,e2,e3,e6,e7,e8,e9,gn,gr,hlt,hlt',qr,hbin,w1,z2,z3,w2,hna];exact Keep.mk' ⟨acc++[n.kids[1]],av',by simp [go_sem,e1],by simp [go_sem,e2],by simp [go_sem,e3],by simp [go_sem,e6],by simp [go_sem,e7],by simp [go_sem],by simp [go_sem],by simpa [go_sem] using gn',by simpa [go_sem] using gr',by simpa [go_sem] using ho',by simp [hal],done _ (by simp [hna,hbin])⟩
    ·simp [go_sem,e1,e2,e3,e6,e7,e8,e9,gn,gr,hlt,hlt',qr,hbin,w1,z2,z3,w2,hna,zL hna]
     refine qc.pure hi (.cons (.hf (qO _)) (.cons (.hf (HF.sc _)) (.cons (.hf (HF.sc _)) .nil))) ?_;simp [go_sem,e1,e2,e3,e6,e7,e8,e9,gn,gr,hlt,hlt',qr,hbin,w1,z2,z3,w2,hna,zL hna];refine jY ho (by omega) fun av' m' ho' hm'=>?_
     have gn':m'[0]?=some (.arr [aI n.op,aS n.name,aI n.n,lNd n.kids,aI n.pos]):=by rw [hm' 0 (by omega)];exact gn
     have gr':m'[1]?=some (.arr [aI 0,aS ⟨#[]⟩,aI 0,.lst true [],aI 0]):=by rw [hm' 1 (by omega)];exact gr
     simp [go_sem,e1,e2,e3,e6,e7,e8,e9,gn,gr,hlt,hlt',qr,hbin,w1,z2,z3,w2,hna,zL hna];exact Keep.mk' ⟨acc++[renN a b n.kids[1]],av',by simp [go_sem,e1],by simp [go_sem,e2],by simp [go_sem,e3],by simp [go_sem,e6],by simp [go_sem,e7],by simp [go_sem],by simp [go_sem],by simpa [go_sem] using gn',by simpa [go_sem] using gr',by simpa [go_sem] using ho',by simp [hal],done _ (by simp [hna,zL hna,hbin])⟩
   ·simp [go_sem,e1,e2,e3,e6,e7,e8,e9,gn,gr,hlt,hlt',qr,hbin,w1,hk1,show ¬(k:Int)=1 by omega]
    refine qc.pure hi (.cons (.hf (qO _)) (.cons (.hf (HF.sc _)) (.cons (.hf (HF.sc _)) .nil))) ?_;simp [go_sem,e1,e2,e3,e6,e7,e8,e9,gn,gr,hlt,hlt',qr,hbin,w1,hk1,show ¬(k:Int)=1 by omega];refine jY ho (by omega) fun av' m' ho' hm'=>?_
    have gn':m'[0]?=some (.arr [aI n.op,aS n.name,aI n.n,lNd n.kids,aI n.pos]):=by rw [hm' 0 (by omega)];exact gn
    have gr':m'[1]?=some (.arr [aI 0,aS ⟨#[]⟩,aI 0,.lst true [],aI 0]):=by rw [hm' 1 (by omega)];exact gr
    simp [go_sem,e1,e2,e3,e6,e7,e8,e9,gn,gr,hlt,hlt',qr,hbin,w1,hk1,show ¬(k:Int)=1 by omega];exact Keep.mk' ⟨acc++[renN a b n.kids[k]],av',by simp [go_sem,e1],by simp [go_sem,e2],by simp [go_sem,e3],by simp [go_sem,e6],by simp [go_sem,e7],by simp [go_sem],by simp [go_sem],by simpa [go_sem] using gn',by simpa [go_sem] using gr',by simpa [go_sem] using ho',by simp [hal],done _ (by simp [hk1,show ¬(k:Int)=1 by omega,hbin])⟩
  ·have hbin:binB n.op=true:=by rw [h];rfl
   simp [go_sem,h,hcn];refine qD.upK n.kids.length (fun k st=>∃(acc:List Nd) (av:AV),st.tm 1=aS a∧st.tm 2=aS b∧st.tm 3 = .ptr 0 0∧st.tm 6 = .ptr 1 0∧st.tm 7=aB (binB n.op)∧st.tm 8=av∧st.tm 9=aI k∧st.mu[0]?=some (.arr [aI n.op,aS n.name,aI n.n,lNd n.kids,aI n.pos])∧st.mu[1]?=some (.arr [aI 0,aS ⟨#[]⟩,aI 0,.lst true [],aI 0])∧OwnF 2 st.mu 5 av (acc.map cNd)∧acc.length=k ∧ .mk n.op n.name n.n (acc++yM a b (binB n.op&&decide (n.name=a)) k (n.kids.drop k)) n.pos=R) ?_ ?_
   ·exact ⟨[],.lst true [],by simp [go_sem],by simp [go_sem],by simp [go_sem],by simp [go_sem],by simp [go_sem,hbin],by simp [go_sem],by simp [go_sem],by simp [go_sem,h],by simp [go_sem],OwnF.nil (by simp [go_sem]),rfl,by simpa using hR⟩
   clear hR;rintro k st hk ⟨acc,av,e1,e2,e3,e6,e7,e8,e9,gn,gr,ho,hal,hI⟩;have hbl:=ho.2.2;by_cases hkl:k=n.kids.length
   ·subst hkl
    rw [List.drop_length] at hI;have hI:R = .mk n.op n.name n.n acc n.pos:=by rw [←hI];simp [yM]
    have hcc:=ho.cells;have hon:=ho.one;have hs0:∀ c,(st.mu.set 0 c)[0]?=some c:=fun c=>zd (by omega)
    have hs1:∀ c c',((st.mu.set 0 c).set 1 c')[1]?=some c':=fun c c'=>zd (by simp;omega)
    have hs01:∀ c,(st.mu.set 0 c)[1]?=st.mu[1]?:=fun c=>qL (by omega)
    rw [hI];simp [go_sem,e1,e2,e3,e6,e7,e8,e9,gn,gr,hcc,hon,hs0,hs1,hs01];exact YP ((ho.set (by omega)).set (by omega))
   have hlt:k<n.kids.length:=by omega
   have w1:IntKind.i64.wrap ((k:Int)+1)=(k:Int)+1:=qy (by omega) (by omega);have hlt':(k:Int)<n.kids.length:=by omega
   have hi:=ih n.kids[k] (qJ hlt);rw [zA hlt] at hI;simp only [yM] at hI;have done:∀(x:Nd),(if (binB n.op&&decide (n.name=a))=true∧k=1 then n.kids[k] else renN a b n.kids[k])=x → .mk n.op n.name n.n ((acc++[x])++yM a b (binB n.op&&decide (n.name=a)) (k+1) (n.kids.drop (k+1))) n.pos=R:=fun x hx=>by
    rw [hx] at hI;rw [←hI];simp
   by_cases hk1:k=1
   ·subst hk1
    have z2:(1:Int)<n.kids.length:=by omega
    have z3:1<n.kids.length:=by omega
    have w2:IntKind.i64.wrap 2=2:=rfl;by_cases hna:n.name=a
    ·simp [go_sem,e1,e2,e3,e6,e7,e8,e9,gn,gr,hlt,hlt',qr,hbin,w1,z2,z3,w2,hna]
     refine jY ho (by omega) fun av' m' ho' hm'=>?_
     have gn':m'[0]?=some (.arr [aI n.op,aS n.name,aI n.n,lNd n.kids,aI n.pos]):=by rw [hm' 0 (by omega)];exact gn
     have gr':m'[1]?=some (.arr [aI 0,aS ⟨#[]⟩,aI 0,.lst true [],aI 0]):=by rw [hm' 1 (by omega)];exact gr
     simp [go_sem,e1,e2,e3,e6,e7,e8,e9,gn,gr,hlt,hlt',qr,hbin,w1,z2,z3,w2,hna];exact Keep.mk' ⟨acc++[n.kids[1]],av',by simp [go_sem,e1],by simp [go_sem,e2],by simp [go_sem,e3],by simp [go_sem,e6],by simp [go_sem,e7],by simp [go_sem],by simp [go_sem],by simpa [go_sem] using gn',by simpa [go_sem] using gr',by simpa [go_sem] using ho',by simp [hal],done _ (by simp [hna,hbin])⟩
    ·simp [go_sem,e1,e2,e3,e6,e7,e8,e9,gn,gr,hlt,hlt',qr,hbin,w1,z2,z3,w2,hna,zL hna]
     refine qc.pure hi (.cons (.hf (qO _)) (.cons (.hf (HF.sc _)) (.cons (.hf (HF.sc _)) .nil))) ?_;simp [go_sem,e1,e2,e3,e6,e7,e8,e9,gn,gr,hlt,hlt',qr,hbin,w1,z2,z3,w2,hna,zL hna];refine jY ho (by omega) fun av' m' ho' hm'=>?_
     have gn':m'[0]?=some (.arr [aI n.op,aS n.name,aI n.n,lNd n.kids,aI n.pos]):=by rw [hm' 0 (by omega)];exact gn
     have gr':m'[1]?=some (.arr [aI 0,aS ⟨#[]⟩,aI 0,.lst true [],aI 0]):=by rw [hm' 1 (by omega)];exact gr
     simp [go_sem,e1,e2,e3,e6,e7,e8,e9,gn,gr,hlt,hlt',qr,hbin,w1,z2,z3,w2,hna,zL hna];exact Keep.mk' ⟨acc++[renN a b n.kids[1]],av',by simp [go_sem,e1],by simp [go_sem,e2],by simp [go_sem,e3],by simp [go_sem,e6],by simp [go_sem,e7],by simp [go_sem],by simp [go_sem],by simpa [go_sem] using gn',by simpa [go_sem] using gr',by simpa [go_sem] using ho',by simp [hal],done _ (by simp [hna,zL hna,hbin])⟩
   ·simp [go_sem,e1,e2,e3,e6,e7,e8,e9,gn,gr,hlt,hlt',qr,hbin,w1,hk1,show ¬(k:Int)=1 by omega]
    refine qc.pure hi (.cons (.hf (qO _)) (.cons (.hf (HF.sc _)) (.cons (.hf (HF.sc _)) .nil))) ?_;simp [go_sem,e1,e2,e3,e6,e7,e8,e9,gn,gr,hlt,hlt',qr,hbin,w1,hk1,show ¬(k:Int)=1 by omega];refine jY ho (by omega) fun av' m' ho' hm'=>?_
    have gn':m'[0]?=some (.arr [aI n.op,aS n.name,aI n.n,lNd n.kids,aI n.pos]):=by rw [hm' 0 (by omega)];exact gn
    have gr':m'[1]?=some (.arr [aI 0,aS ⟨#[]⟩,aI 0,.lst true [],aI 0]):=by rw [hm' 1 (by omega)];exact gr
    simp [go_sem,e1,e2,e3,e6,e7,e8,e9,gn,gr,hlt,hlt',qr,hbin,w1,hk1,show ¬(k:Int)=1 by omega];exact Keep.mk' ⟨acc++[renN a b n.kids[k]],av',by simp [go_sem,e1],by simp [go_sem,e2],by simp [go_sem,e3],by simp [go_sem,e6],by simp [go_sem,e7],by simp [go_sem],by simp [go_sem],by simpa [go_sem] using gn',by simpa [go_sem] using gr',by simpa [go_sem] using ho',by simp [hal],done _ (by simp [hk1,show ¬(k:Int)=1 by omega,hbin])⟩
  ·have hbin:binB n.op=false:=by rw [←Vt];simp [h]
   simp [go_sem,h,hcn];refine qD.upK n.kids.length (fun k st=>∃(acc:List Nd) (av:AV),st.tm 1=aS a∧st.tm 2=aS b∧st.tm 3 = .ptr 0 0∧st.tm 6 = .ptr 1 0∧st.tm 7=aB (binB n.op)∧st.tm 8=av∧st.tm 9=aI k∧st.mu[0]?=some (.arr [aI n.op,aS n.name,aI n.n,lNd n.kids,aI n.pos])∧st.mu[1]?=some (.arr [aI 0,aS ⟨#[]⟩,aI 0,.lst true [],aI 0])∧OwnF 2 st.mu 5 av (acc.map cNd)∧acc.length=k ∧ .mk n.op n.name n.n (acc++yM a b (binB n.op&&decide (n.name=a)) k (n.kids.drop k)) n.pos=R) ?_ ?_
   ·exact ⟨[],.lst true [],by simp [go_sem],by simp [go_sem],by simp [go_sem],by simp [go_sem],by simp [go_sem,hbin],by simp [go_sem],by simp [go_sem],by simp [go_sem,h],by simp [go_sem],OwnF.nil (by simp [go_sem]),rfl,by simpa using hR⟩
   clear hR;rintro k st hk ⟨acc,av,e1,e2,e3,e6,e7,e8,e9,gn,gr,ho,hal,hI⟩;have hbl:=ho.2.2;by_cases hkl:k=n.kids.length
   ·subst hkl
    rw [List.drop_length] at hI;have hI:R = .mk n.op n.name n.n acc n.pos:=by rw [←hI];simp [yM]
    have hcc:=ho.cells;have hon:=ho.one;have hs0:∀ c,(st.mu.set 0 c)[0]?=some c:=fun c=>zd (by omega)
    have hs1:∀ c c',((st.mu.set 0 c).set 1 c')[1]?=some c':=fun c c'=>zd (by simp;omega)
    have hs01:∀ c,(st.mu.set 0 c)[1]?=st.mu[1]?:=fun c=>qL (by omega)
    rw [hI];simp [go_sem,e1,e2,e3,e6,e7,e8,e9,gn,gr,hcc,hon,hs0,hs1,hs01];exact YP ((ho.set (by omega)).set (by omega))
   have hlt:k<n.kids.length:=by omega
   have w1:IntKind.i64.wrap ((k:Int)+1)=(k:Int)+1:=qy (by omega) (by omega);have hlt':(k:Int)<n.kids.length:=by omega
   have hi:=ih n.kids[k] (qJ hlt);rw [zA hlt] at hI;simp only [yM] at hI;have done:∀(x:Nd),(if (binB n.op&&decide (n.name=a))=true∧k=1 then n.kids[k] else renN a b n.kids[k])=x → .mk n.op n.name n.n ((acc++[x])++yM a b (binB n.op&&decide (n.name=a)) (k+1) (n.kids.drop (k+1))) n.pos=R:=fun x hx=>by
    rw [hx] at hI;rw [←hI];simp
   simp [go_sem,e1,e2,e3,e6,e7,e8,e9,gn,gr,hlt,hlt',qr,hbin,w1];refine qc.pure hi (.cons (.hf (qO _)) (.cons (.hf (HF.sc _)) (.cons (.hf (HF.sc _)) .nil))) ?_;simp [go_sem,e1,e2,e3,e6,e7,e8,e9,gn,gr,hlt,hlt',qr,hbin,w1];refine jY ho (by omega) fun av' m' ho' hm'=>?_
   have gn':m'[0]?=some (.arr [aI n.op,aS n.name,aI n.n,lNd n.kids,aI n.pos]):=by rw [hm' 0 (by omega)];exact gn
   have gr':m'[1]?=some (.arr [aI 0,aS ⟨#[]⟩,aI 0,.lst true [],aI 0]):=by rw [hm' 1 (by omega)];exact gr
   simp [go_sem,e1,e2,e3,e6,e7,e8,e9,gn,gr,hlt,hlt',qr,hbin,w1];exact Keep.mk' ⟨acc++[renN a b n.kids[k]],av',by simp [go_sem,e1],by simp [go_sem,e2],by simp [go_sem,e3],by simp [go_sem,e6],by simp [go_sem,e7],by simp [go_sem],by simp [go_sem],by simpa [go_sem] using gn',by simpa [go_sem] using gr',by simpa [go_sem] using ho',by simp [hal],done _ (by simp [hbin])⟩
end Go.Proofs.YtcfopdccdeeleaaGreatDoor.QC


namespace Go.Proofs.YtcfopdccdeeleaaGreatDoor.QD
open Go Go.Ev Go.Proofs Go.Proofs.YtcfopdccdeeleaaGreatDoor YM YS YF P1 P2 Y1 Y2 Y3 Y4 Y5 Y6 Y9 Y16 PA YD Q4
def atF (a:Int):List Int→Int
 | []=>a
 |x :: l=>atF (IntKind.i64.wrap (IntKind.i64.wrap (4*a)+x)) l
def zs:List AV:=List.replicate 64 (aB false)
def oneC (l:List Int):List AV:=aI l.length :: (if 0≤atF 0 l∧atF 0 l<64 then zs.set (atF 0 l).toNat (aB true) else zs)
structure SetC (c:List AV):Prop where
 len:c.length=65
 sc:∀ x,x∈c→x.one=true∧HF x
theorem SetC.one {c:List AV} (h:SetC c):∀ x,x∈c→x.one=true:=fun x hx=>(h.sc x hx).1
theorem SetC.hf {c:List AV} (h:SetC c):HF (.agg c):=HF.agg fun x hx=>(h.sc x hx).2
theorem SetC.take {c:List AV} (h:SetC c):List.take 65 c=c:=y5 (by rw [h.len];exact qB _)
theorem SetC.put {c d:List AV} (h:SetC c) (h':SetC d):putCells c 0 d=d:=by
 rw [j5 _ _ _ (by rw [h.len,h'.len];exact qB _)];simp [h.len,h'.len,List.drop_of_length_le]
theorem SetC.zero:SetC (aI 0 :: zs):=⟨rfl,fun x hx=>by
 rcases qK.1 hx with rfl | hx
 ·exact ⟨rfl,HF.sc _⟩
 ·rw [List.eq_of_mem_replicate hx];exact ⟨rfl,HF.sc _⟩⟩
theorem SetC.oneC (l:List Int):SetC (oneC l):=by
 have hz:∀ x:AV,x∈zs→x.one=true∧HF x:=fun x hx=>by rw [List.eq_of_mem_replicate hx];exact ⟨rfl,HF.sc _⟩
 unfold QD.oneC;split
 ·refine ⟨by simp [zs],fun x hx=>?_⟩
  rcases qK.1 hx with rfl | hx
  ·exact ⟨rfl,HF.sc _⟩
  ·rcases List.mem_or_eq_of_mem_set hx with h | rfl
   ·exact hz x h
   ·exact ⟨rfl,HF.sc _⟩
 ·refine ⟨by simp [zs],fun x hx=>?_⟩
  rcases qK.1 hx with rfl | hx
  ·exact ⟨rfl,HF.sc _⟩
  ·exact hz x hx
theorem oneU (l:List Int) (hl:l.length≤140737488351232):qt Tryz.prog 76 [lI l] (.agg (oneC l)):=by
 have hset:=SetC.oneC l;generalize hR:oneC l=R at *
 unfold oneC at hR;refine qSQ Tryz.call76 Tryz.func76 rfl {} ?_;simp [go_sem];have hzl:zs.length=64:=rfl;refine qD.upK l.length (fun k st=>∃ a:Int,st.tm 0=lI l∧st.tm 2 = .ptr 0 0∧st.tm 3 = .ptr 1 0∧st.tm 4=aI a∧st.tm 5=aI k∧st.mu=[.arr (aI 0 :: zs),.arr (aI l.length :: zs)]∧atF a (l.drop k)=atF 0 l) ?_ ?_
 ·exact ⟨0,by simp [go_sem],by simp [go_sem],by simp [go_sem],by simp [go_sem],by simp [go_sem],by simp [go_sem,zs,List.replicate],rfl⟩
 rintro k st hk ⟨a,e0,e2,e3,e4,e5,hm,hI⟩;by_cases hlt:k<l.length
 ·have w1:IntKind.i64.wrap ((k:Int)+1)=(k:Int)+1:=qy (by omega) (by omega)
  rw [zA hlt] at hI;simp [go_sem,e0,e2,e3,e4,e5,hm,hlt,w1];exact Keep.mk' ⟨_,by simp [go_sem,e0],by simp [go_sem,e2],by simp [go_sem,e3],by simp [go_sem],by simp [go_sem],by simp [go_sem,hm],hI⟩
 have hke:k=l.length:=by omega
 subst hke;rw [List.drop_length] at hI;have ha:a=atF 0 l:=hI;rw [←ha] at hR;have z1:∀ x:AV,(x :: zs).length=65:=fun x=>rfl
 have one1:∀ x:AV,x∈zs→x.one=true:=fun x hx=>by rw [List.eq_of_mem_replicate hx];rfl
 have tk:List.take 64 zs=zs:=rfl;have pc:∀(x y:AV) (Z:List AV),Z.length=64→putCells (x :: zs) 0 (y :: Z)=y :: Z:=fun x y Z hZ=>by
  rw [j5 _ _ _ (by simp [hZ,hzl])];simp [hZ,hzl,List.drop_of_length_le]
 by_cases h0:0≤a
 ·obtain ⟨j,rfl⟩:∃ j:Nat,a=j:=⟨a.toNat,by omega⟩
  by_cases h64:(j:Int)<64
  ·have hj:1+j≤64:=by omega
   have hst:∀ x:AV,(x :: zs).set (1+j) (AV.sc (Value.bool true))=x :: zs.set j (AV.sc (Value.bool true)):=fun x=>by rw [Nat.add_comm];rfl
   have sl:(zs.set j (AV.sc (Value.bool true))).length=64:=by simp [hzl]
   have one2:∀ x:AV,x∈zs.set j (AV.sc (Value.bool true))→x.one=true:=fun x hx=>by
    rcases List.mem_or_eq_of_mem_set hx with h | rfl
    ·exact one1 x h
    ·rfl
   have tk2:List.take 64 (zs.set j (AV.sc (Value.bool true)))=zs.set j (AV.sc (Value.bool true)):=y5 (by omega);have hR2:R=aI l.length :: zs.set j (AV.sc (Value.bool true)):=by rw [←hR,if_pos ⟨h0,h64⟩];rfl
   generalize zs.set j (AV.sc (Value.bool true))=Z at *
   simp [go_sem,e0,e2,e3,e4,e5,hm,h0,h64,hzl,hj,hst,sl,tk2,pc _ _ _ sl];rw [if_pos one2];simp [go_sem,e0,e2,e3,e4,e5,hm,sl,tk2];rw [hR2] at hset ⊢;exact .hf _ hset.hf
  ·simp [go_sem,e0,e2,e3,e4,e5,hm,h0,h64,hzl,tk,pc _ _ _ hzl]
   rw [if_pos one1];simp [go_sem,e0,e2,e3,e4,e5,hm,hzl,tk];have hR2:R=aI l.length :: zs:=by rw [←hR,if_neg (by omega)]
   rw [hR2] at hset ⊢;exact .hf _ hset.hf
 ·simp [go_sem,e0,e2,e3,e4,e5,hm,h0,hzl,tk,pc _ _ _ hzl]
  rw [if_pos one1];simp [go_sem,e0,e2,e3,e4,e5,hm,hzl,tk];have hR2:R=aI l.length :: zs:=by rw [←hR,if_neg (by omega)]
  rw [hR2] at hset ⊢;exact .hf _ hset.hf
abbrev NS:=List AV×Nat
def stF (nm:ByteArray) (f:Fld) (s:NS):NS:=if f.name=nm then (oneC f.sorts,s.2+1) else s
def nmF (nm:ByteArray):List Fld→NS→NS
 | [],s=>s
 |f :: l,s=>nmF nm l (stF nm f s)
def st1 (nm:ByteArray) (i:Nat) (x:ByteArray×Bool) (s:NS):NS:=if x.1=nm then (oneC [(i:Int)],s.2+1) else s
def st2 (nm:ByteArray) (i:Nat) (x:ByteArray×Bool) (s:NS):NS:=if x.2=true∧x.1++vy=nm then (oneC [(i:Int)],s.2+1) else s
def st3 (nm:ByteArray) (i:Nat) (x:ByteArray×Bool) (s:NS):NS:=if x.2=true∧x.1++v7=nm then (oneC [(i:Int),(i:Int)],s.2+1) else s
def nmS (nm:ByteArray):Nat→List (ByteArray×Bool)→NS→NS
 |_,[],s=>s
 |i,x :: l,s=>nmS nm (i+1) l (st3 nm i x (st2 nm i x (st1 nm i x s)))
def named (ts:TS) (nm:ByteArray):NS:=nmS nm 0 ts.sorts (nmF nm ts.fields (aI 0 :: zs,0))
theorem qfX {nm:ByteArray} {f:Fld} {s:NS} (h:SetC s.1):SetC (stF nm f s).1:=by
 unfold stF;split
 ·exact SetC.oneC _
 ·exact h
theorem pU {nm:ByteArray} {i:Nat} {x:ByteArray×Bool} {s:NS} (h:SetC s.1):SetC (st1 nm i x s).1:=by
 unfold st1;split
 ·exact SetC.oneC _
 ·exact h
theorem pW {nm:ByteArray} {i:Nat} {x:ByteArray×Bool} {s:NS} (h:SetC s.1):SetC (st2 nm i x s).1:=by
 unfold st2;split
 ·exact SetC.oneC _
 ·exact h
theorem pX {nm:ByteArray} {i:Nat} {x:ByteArray×Bool} {s:NS} (h:SetC s.1):SetC (st3 nm i x s).1:=by
 unfold st3;split
 ·exact SetC.oneC _
 ·exact h
theorem st_le {nm:ByteArray} {i:Nat} {x:ByteArray×Bool} {s:NS}:(st3 nm i x (st2 nm i x (st1 nm i x s))).2≤s.2+3:=by
 have h1:(st1 nm i x s).2≤s.2+1:=by unfold st1;split<;>simp
 have h2:∀ s:NS,(st2 nm i x s).2≤s.2+1:=fun s=>by unfold st2;split<;>simp
 have h3:∀ s:NS,(st3 nm i x s).2≤s.2+1:=fun s=>by unfold st3;split<;>simp
 have:=h2 (st1 nm i x s);have:=h3 (st2 nm i x (st1 nm i x s));omega
theorem pY (nm:ByteArray):∀(l:List Fld) (s:NS),SetC s.1→SetC (nmF nm l s).1
 | [],_,h=>h
 |f :: l,s,h=>pY nm l _ (qfX h)
theorem pZ (nm:ByteArray):∀(l:List (ByteArray×Bool)) (i:Nat) (s:NS),SetC s.1→SetC (nmS nm i l s).1
 | [],_,_,h=>h
 |x :: l,i,s,h=>pZ nm l _ _ (pX (pW (pU h)))
theorem WN (ts:TS) (nm:ByteArray):SetC (named ts nm).1:=pZ nm _ _ _ (pY nm _ _ SetC.zero)
theorem wk1 (i:Int):WK (.lst true [rI i]) (lI [i]):=WK.lst fun r hr c hc=>by
 rw [zj] at hr;subst hr;rw [zj] at hc;subst hc;exact HF.sc _
theorem wk2 (i j:Int):WK (.lst true [rI i,rI j]) (lI [i,j]):=WK.lst fun r hr c hc=>by
 rcases qK.1 hr with rfl | hr
 ·rw [zj] at hc;subst hc;exact HF.sc _
 ·rw [zj] at hr;subst hr
  rw [zj] at hc;subst hc;exact HF.sc _
structure okNm (ts:TS):Prop where
 so:∀ x,x∈ts.sorts→x.1.size≤4611686018427387904
 nso:ts.sorts.length≤140737488351232
 nf:ts.fields.length≤140737488351232
 fl:∀ f,f∈ts.fields→f.sorts.length≤140737488351232
theorem WO (ts:TS) (ha:okNm ts) (nm:ByteArray):qt Tryz.prog 27 [eTS ts,aS nm] (.tup [.agg (named ts nm).1,aI (named ts nm).2]):=by
  generalize hR:named ts nm=R;unfold named at hR;refine qSQ Tryz.call27 Tryz.func27 rfl {} ?_;have hnf:=ha.nf;have hzl:zs.length=64:=rfl;have hns:=ha.nso;simp [go_sem];refine qD.upK ts.fields.length (fun i st=>∃ s:NS,st.tm 1=aS nm∧st.tm 2 = .ip (cTS ts)∧st.tm 4 = .ptr 0 0∧st.tm 6 = .ptr 1 0∧st.tm 7=aI s.2∧st.tm 8=aI i∧st.mu=[.arr (aI 0 :: zs),.arr s.1]∧SetC s.1∧s.2≤i∧nmS nm 0 ts.sorts (nmF nm (ts.fields.drop i) s)=R) ?_ ?_
  · exact ⟨(aI 0 :: zs,0),by simp [go_sem],by simp [go_sem],by simp [go_sem],by simp [go_sem],by simp [go_sem],by simp [go_sem],by simp [go_sem,zs,List.replicate],SetC.zero,by simp,by simpa using hR⟩
  clear hR;rintro i st hi ⟨⟨c,k⟩,e1,e2,e4,e6,e7,e8,hm,hc,hk,hI⟩;have hk:k≤i:=hk;have hc:SetC c:=hc;by_cases hlt:i<ts.fields.length
  · have w1:IntKind.i64.wrap ((i:Int)+1)=(i:Int)+1:=qy (by omega) (by omega)
    have w2:IntKind.i64.wrap ((k:Int)+1)=(k:Int)+1:=qy (by omega) (by omega);rw [zA hlt] at hI;have ho:=oneU ts.fields[i].sorts (ha.fl _ (qJ hlt));have hco:=SetC.oneC ts.fields[i].sorts;by_cases hq:ts.fields[i].name=nm
    · simp [go_sem,e1,e2,e4,e6,e7,e8,hm,hlt,hq]
      refine qc.pure ho (.cons (.hf (j9 _)) .nil) ?_;simp [go_sem,e1,e2,e4,e6,e7,e8,hm,hlt,hco.len,hc.len,hc.put hco];rw [if_pos hco.one];simp [go_sem,e1,e2,e4,e6,e7,e8,hm,hlt,hco.len,hc.put hco,w1,w2];exact Keep.mk' ⟨(oneC ts.fields[i].sorts,k+1),by simp [go_sem,e1],by simp [go_sem,e2],by simp [go_sem,e4],by simp [go_sem,e6],by simp [go_sem],by simp [go_sem],by simp [go_sem],hco,by show k+1≤i+1;omega,by rw [←hI];simp [nmF,stF,hq]⟩
    · simp [go_sem,e1,e2,e4,e6,e7,e8,hm,hlt,zL hq,w1]
      exact Keep.mk' ⟨(c,k),by simp [go_sem,e1],by simp [go_sem,e2],by simp [go_sem,e4],by simp [go_sem,e6],by simp [go_sem,e7],by simp [go_sem],by simp [go_sem,hm],hc,by show k≤i+1;omega,by rw [←hI];simp [nmF,stF,hq]⟩
  have hie:i=ts.fields.length:=by omega
  subst hie;rw [List.drop_length] at hI;simp only [nmF] at hI;simp [go_sem,e1,e2,e4,e6,e7,e8,hm,hlt];refine qD.upK ts.sorts.length (fun i st=>∃ s:NS,st.tm 1=aS nm∧st.tm 2 = .ip (cTS ts)∧st.tm 4 = .ptr 0 0∧st.tm 6 = .ptr 1 0∧st.tm 7=aI s.2∧st.tm 9=aI i∧st.mu=[.arr (aI 0 :: zs),.arr s.1]∧SetC s.1∧s.2≤ts.fields.length+3*i∧nmS nm i (ts.sorts.drop i) s=R) ?_ ?_
  · exact ⟨(c,k),by simp [go_sem,e1],by simp [go_sem,e2],by simp [go_sem,e4],by simp [go_sem,e6],by simp [go_sem,e7],by simp [go_sem],by simp [go_sem,hm],hc,by show k≤_;omega,by simpa using hI⟩
  clear e1 e2 e4 e6 e7 e8 hm hc hk hI hlt;rintro i st hi ⟨⟨c,k⟩,e1,e2,e4,e6,e7,e9,hm,hc,hk,hI⟩;have hk:k≤ts.fields.length+3*i:=hk;have hc:SetC c:=hc;by_cases hlt:i<ts.sorts.length
  · have w1:IntKind.i64.wrap ((i:Int)+1)=(i:Int)+1:=qy (by omega) (by omega)
    have w2:IntKind.i64.wrap ((k:Int)+1)=(k:Int)+1:=qy (by omega) (by omega);have w3:IntKind.i64.wrap ((k:Int)+1+1)=(k:Int)+1+1:=qy (by omega) (by omega);have w4:IntKind.i64.wrap ((k:Int)+1+1+1)=(k:Int)+1+1+1:=qy (by omega) (by omega);rw [zA hlt] at hI;simp only [nmS] at hI;have ho1:=oneU [(i:Int)] (by simp);have ho2:=oneU [(i:Int),(i:Int)] (by simp);have hc1:=SetC.oneC [(i:Int)];have hc2:=SetC.oneC [(i:Int),(i:Int)];have p01:=hc.put hc1;have p02:=hc.put hc2;have p11:=hc1.put hc1;have p12:=hc1.put hc2;have l1:=hc1.len;have l2:=hc2.len;have l0:=hc.len;have hle:=st_le (nm:=nm) (i:=i) (x:=ts.sorts[i]) (s:=(c,k));have hst:=pX (nm:=nm) (i:=i) (x:=ts.sorts[i]) (pW (nm:=nm) (i:=i) (x:=ts.sorts[i]) (pU (nm:=nm) (i:=i) (x:=ts.sorts[i]) (s:=(c,k)) hc));have hsz:=ha.so _ (qJ hlt);have hsz:ts.sorts[i].1.size≤4611686018427387904:=hsz;generalize hso:ts.sorts[i]=so at *
    obtain ⟨sn,sb⟩:=so;have hs1:sn.size≤9223372036854775801:=by simp at hsz;omega
    have hs2:sn.size≤9223372036854775802:=by simp at hsz;omega
    generalize hN:st3 nm i (sn,sb) (st2 nm i (sn,sb) (st1 nm i (sn,sb) (c,k)))=N at *
    have hfs:(sn++vy=nm)=(sn++(⟨#[95,102,105,114,115,116]⟩:ByteArray)=nm):=rfl;have hxs:(sn++v7=nm)=(sn++(⟨#[95,110,101,120,116]⟩:ByteArray)=nm):=rfl;simp only [st1,st2,st3,hfs,hxs] at hN;obtain ⟨d1,hd1⟩:∃ d,decide (sn=nm)=d:=⟨_,rfl⟩;obtain ⟨d2,hd2⟩:∃ d,decide (sn++(⟨#[95,102,105,114,115,116]⟩:ByteArray)=nm)=d:=⟨_,rfl⟩;obtain ⟨d3,hd3⟩:∃ d,decide (sn++(⟨#[95,110,101,120,116]⟩:ByteArray)=nm)=d:=⟨_,rfl⟩;have p1:(sn=nm)=(d1=true):=by rw [←hd1];simp
    have p2:(sn++(⟨#[95,102,105,114,115,116]⟩:ByteArray)=nm)=(d2=true):=by rw [←hd2];simp
    have p3:(sn++(⟨#[95,110,101,120,116]⟩:ByteArray)=nm)=(d3=true):=by rw [←hd3];simp
    simp only [p1,p2,p3] at hN;have done:∀ st':St,st'.tm 1=aS nm→st'.tm 2 = .ip (cTS ts)→st'.tm 4 = .ptr 0 0→st'.tm 6 = .ptr 1 0→st'.tm 7=aI N.2→st'.tm 9=aI (i+1:Nat)→st'.mu=[.arr (aI 0 :: zs),.arr N.1] →
        Keep (fun st=>∃ s:NS,st.tm 1=aS nm∧st.tm 2 = .ip (cTS ts)∧st.tm 4 = .ptr 0 0∧st.tm 6 = .ptr 1 0∧st.tm 7=aI s.2∧st.tm 9=aI (i+1:Nat)∧st.mu=[.arr (aI 0 :: zs),.arr s.1]∧SetC s.1∧s.2≤ts.fields.length+3*(i+1)∧nmS nm (i+1) (ts.sorts.drop (i+1)) s=R) .mk st':=
      fun st' a1 a2 a3 a4 a5 a6 a7=>Keep.mk' ⟨N,a1,a2,a3,a4,a5,a6,a7,hst,by have:N.2≤k+3:=hle;omega,hI⟩
    cases d1<;>cases d2<;>cases d3<;>cases sb
    all_goals simp only [if_true,if_false,and_false,and_true,false_and,true_and,reduceCtorEq] at hN
    all_goals simp [go_sem,Y10.Qf,e1,e2,e4,e6,e7,e9,hm,hlt,hso,hd1,hd2,hd3,w1,w2,w3,w4,hs1,hs2]
    all_goals repeat' (first
      | (refine qc.pure ho1 (.cons (wk1 _) .nil) ?_
         simp [go_sem,e1,e2,e4,e6,e7,e9,hm,hlt,hso,p01,p11,l0,l1];rw [if_pos hc1.one];simp [go_sem,Y10.Qf,e1,e2,e4,e6,e7,e9,hm,hlt,hso,hd1,hd2,hd3,w1,w2,w3,w4,hs1,hs2])
      | (refine qc.pure ho2 (.cons (wk2 _ _) .nil) ?_
         simp [go_sem,e1,e2,e4,e6,e7,e9,hm,hlt,hso,p02,p12,l0,l1,l2];rw [if_pos hc2.one];simp [go_sem,Y10.Qf,e1,e2,e4,e6,e7,e9,hm,hlt,hso,hd1,hd2,hd3,w1,w2,w3,w4,hs1,hs2]))
    all_goals try subst hN
    all_goals try exact done _ (by simp [go_sem,e1]) (by simp [go_sem,e2]) (by simp [go_sem,e4]) (by simp [go_sem,e6]) (by simp [go_sem,e7]) (by simp [go_sem]) (by simp [go_sem,hm])
  have hie:i=ts.sorts.length:=by omega
  subst hie;rw [List.drop_length] at hI;simp only [nmS] at hI;subst hI;simp [go_sem,e1,e2,e4,e6,e7,e9,hm,hc.len,hc.take,SetC.zero.put hc,SetC.zero.len,hzl];rw [if_pos hc.one];simp [go_sem,e1,e2,e4,e6,e7,e9,hm,hc.len,hc.take,SetC.zero.put hc];refine .hf _ (HF.tup fun x hx=>?_);rcases qK.1 hx with rfl | hx
  · exact hc.hf
  · rw [zj] at hx;subst hx;exact HF.sc _
end Go.Proofs.YtcfopdccdeeleaaGreatDoor.QD


namespace Go.Proofs.YtcfopdccdeeleaaGreatDoor.QE
open Go Go.Ev Go.Proofs Go.Proofs.YtcfopdccdeeleaaGreatDoor YM YS YF P1 P2 Y1 Y2 Y3 Y4 Y5 Y6 Y9 Y16 PA YD Q4 QD
abbrev RS:=Int×(Nat→Bool)
def hB (g:Nat→Bool):List AV:=(List.range 64).map fun i=>aB (g i)
abbrev cRS (s:RS):List AV:=aI s.1 :: hB s.2
abbrev eRS (s:RS):AV := .agg (cRS s)
theorem qm (g:Nat→Bool):(hB g).length=64:=by simp [hB]
theorem p5 (g:Nat→Bool) (i:Nat) (v:Bool):(hB g).set i (aB v)=hB fun j=>if j=i then v else g j:=by
 refine List.ext_getElem (by simp [hB]) fun j h1 h2=>?_
 rw [List.getElem_set];simp only [hB,List.getElem_map,List.getElem_range];by_cases h:i=j
 ·rw [if_pos h,if_pos h.symm]
 ·rw [if_neg h,if_neg (fun e=>h e.symm)]
theorem qfY (g:Nat→Bool) (i:Nat) (h:i<64):(hB g)[i]?=some (aB (g i)):=by
 simp [hB,h]
theorem uh {g g':Nat→Bool} (h:∀ j,j<64→g j=g' j):hB g=hB g':=by
 refine List.map_congr_left fun j hj=>?_
 rw [h j (List.mem_range.1 hj)]
theorem setC (s:RS):SetC (cRS s):=⟨by simp [hB],fun x hx=>by
 rcases qK.1 hx with rfl | hx
 ·exact ⟨rfl,HF.sc _⟩
 ·obtain ⟨j,_,rfl⟩:=qE.1 hx
  exact ⟨rfl,HF.sc _⟩⟩
theorem yp (s:RS):HF (eRS s):=(setC s).hf
theorem p6:hB (fun _=>false)=zs:=rfl
def oneS (l:List Int):RS:=(l.length,fun j=>decide ((j:Int)=atF 0 l))
theorem WP (l:List Int):oneC l=cRS (oneS l):=by
 unfold oneC oneS;simp only [cRS];split
 ·rename_i h
  have e:aB true=aB true:=rfl;rw [←p6,p5];congr 1;refine uh fun j hj=>?_
  by_cases hq:j=(atF 0 l).toNat
  ·rw [if_pos hq];exact (decide_eq_true (by omega)).symm
  ·rw [if_neg hq];exact (decide_eq_false (by omega)).symm
 ·rename_i h
  rw [←p6];congr 1;refine uh fun j hj=>?_
  exact (decide_eq_false (by omega)).symm
def szA (k:Int):Nat:=if k<1 then 1 else if k=1 then 4 else if k=2 then 16 else 64
theorem ZG (k:Int):szA k≤64∧1≤szA k:=by unfold szA;split<;>(try split)<;>(try split)<;>omega
theorem YQ (k:Int):qt Tryz.prog 99 [aI k] (aI (szA k)):=by
 refine qSQ Tryz.call99 Tryz.func99 rfl {} ?_;unfold szA;by_cases h1:k<1
 ·simp [go_sem,h1];exact .hf _ (HF.sc _)
 by_cases h2:k=1
 ·simp [go_sem,h2];exact .hf _ (HF.sc _)
 by_cases h3:k=2
 ·simp [go_sem,h3];exact .hf _ (HF.sc _)
 simp [go_sem,h1,h2,h3];exact .hf _ (HF.sc _)
def uniS (a b:RS):RS:=(a.1,fun j=>a.2 j||b.2 j)
def intS (a b:RS):RS:=(a.1,fun j=>a.2 j&&b.2 j)
theorem g1 (x:AV) (g:Nat→Bool) (i:Nat) (h:i<64):(x :: hB g)[1+i]?=some (aB (g i)):=by
 rw [Nat.add_comm,List.getElem?_cons_succ,qfY g i h]
theorem d1 (x:AV) (g:Nat→Bool) (i:Nat) (h:i<64):List.take 1 (List.drop (1+i) (x :: hB g))=[aB (g i)]:=by
 rw [Nat.add_comm,List.drop_succ_cons,zA (by rw [qm];exact h)];simp [hB]
theorem d0 (g:Nat→Bool) (i:Nat) (h:i<64):List.take 1 (List.drop i (hB g))=[aB (g i)]:=by
 rw [zA (by rw [qm];exact h)];simp [hB]
theorem s1 (x:AV) (g:Nat→Bool) (i:Nat) (v:Bool):(x :: hB g).set (1+i) (aB v)=x :: hB fun j=>if j=i then v else g j:=by
 rw [Nat.add_comm,List.set_cons_succ,p5]
theorem qV (g:Nat→Bool):∀ x:AV,x∈hB g→x.one=true:=fun x hx=>by
 obtain ⟨j,_,rfl⟩:=qE.1 hx;rfl
theorem tk (g:Nat→Bool):List.take 64 (hB g)=hB g:=y5 (by rw [qm];exact qB _)
theorem pc (x y:AV) (g g':Nat→Bool):putCells (x :: hB g) 0 (y :: hB g')=y :: hB g':=by
 rw [j5 _ _ _ (by simp [qm])];simp [qm,List.drop_of_length_le]
theorem uX (a b:RS):qt Tryz.prog 148 [eRS a,eRS b] (eRS (uniS a b)):=by
 refine qSQ Tryz.call148 Tryz.func148 rfl { mt:=[2] } ?_;simp [go_sem,qm];refine ⟨qV _,qV _,?_⟩;refine qD.upK 64 (fun i st=>st.tm 2 = .ptr 0 0∧st.tm 3 = .ip (cRS b)∧st.tm 4 = .ptr 1 0∧st.tm 5=aI i∧st.mu=[.arr (aI a.1 :: hB (fun j=>if j<i then a.2 j||b.2 j else a.2 j)),.arr (aI 0 :: hB fun _=>false)]) ?_ ?_
 ·exact ⟨by simp [go_sem],by simp [go_sem],by simp [go_sem],by simp [go_sem],by simp [go_sem];rfl⟩
 rintro i st hi ⟨e2,e3,e4,e5,hm⟩;by_cases hlt:i<64
 ·have hlt':(i:Int)<64:=by omega
  have hi1:1+i≤64:=by omega
  have w1:IntKind.i64.wrap ((i:Int)+1)=(i:Int)+1:=qy (by omega) (by omega);generalize hG:(fun j=>if j<i then a.2 j||b.2 j else a.2 j)=G at *
  have hGi:G i=a.2 i:=by rw [←hG];simp
  have hnext:∀ v:Bool,v=(a.2 i||b.2 i)→(aI a.1 :: hB G).set (1+i) (aB v)=aI a.1 :: hB (fun j=>if j<i+1 then a.2 j||b.2 j else a.2 j):=fun v hv=>by
   rw [s1];congr 2;funext j;rw [←hG,hv];by_cases h1:j=i
   ·subst h1;simp
   ·by_cases h2:j<i
    ·simp [h1,h2,show j<i+1 by omega]
    ·simp [h1,h2,show ¬j<i+1 by omega]
  have m1:=d1 (aI a.1) G i hlt;have m2:=d0 b.2 i hlt;have hi2:1≤64-i:=by omega
  rw [hGi] at m1;cases ha:a.2 i with
  |true =>
   rw [ha] at m1 hnext;have hn:=hnext true (by simp);simp [go_sem,e2,e3,e4,e5,hm,hlt,hlt',hi1,hi2,qm,m1,m2,hn,w1];exact Keep.mk' ⟨by simp [go_sem,e2],by simp [go_sem,e3],by simp [go_sem,e4],by simp [go_sem],by simp [go_sem]⟩
  |false =>
   rw [ha] at m1 hnext;have hn:=hnext (b.2 i) (by simp);simp [go_sem,e2,e3,e4,e5,hm,hlt,hlt',hi1,hi2,qm,m1,m2,hn,w1];exact Keep.mk' ⟨by simp [go_sem,e2],by simp [go_sem,e3],by simp [go_sem,e4],by simp [go_sem],by simp [go_sem]⟩
 ·have hie:i=64:=by omega
  subst hie;simp [go_sem,e2,e3,e4,e5,hm,qm,tk,pc];rw [if_pos (qV _)];simp [go_sem,e2,e3,e4,e5,hm,qm,tk,pc];have e:(aI a.1 :: hB fun j=>if j<64 then a.2 j||b.2 j else a.2 j)=cRS (uniS a b):=by
   exact congrArg (aI a.1 :: ·) (uh fun j hj=>if_pos hj)
  rw [e];exact .hf _ (yp _)
theorem p7 (a b:RS):qt Tryz.prog 149 [eRS a,eRS b] (eRS (intS a b)):=by
 refine qSQ Tryz.call149 Tryz.func149 rfl { mt:=[2] } ?_;simp [go_sem,qm];refine ⟨qV _,qV _,?_⟩;refine qD.upK 64 (fun i st=>st.tm 2 = .ptr 0 0∧st.tm 3 = .ip (cRS b)∧st.tm 4 = .ptr 1 0∧st.tm 5=aI i∧st.mu=[.arr (aI a.1 :: hB (fun j=>if j<i then a.2 j&&b.2 j else a.2 j)),.arr (aI 0 :: hB fun _=>false)]) ?_ ?_
 ·exact ⟨by simp [go_sem],by simp [go_sem],by simp [go_sem],by simp [go_sem],by simp [go_sem];rfl⟩
 rintro i st hi ⟨e2,e3,e4,e5,hm⟩;by_cases hlt:i<64
 ·have hlt':(i:Int)<64:=by omega
  have hi1:1+i≤64:=by omega
  have w1:IntKind.i64.wrap ((i:Int)+1)=(i:Int)+1:=qy (by omega) (by omega);generalize hG:(fun j=>if j<i then a.2 j&&b.2 j else a.2 j)=G at *
  have hGi:G i=a.2 i:=by rw [←hG];simp
  have hnext:∀ v:Bool,v=(a.2 i&&b.2 i)→(aI a.1 :: hB G).set (1+i) (aB v)=aI a.1 :: hB (fun j=>if j<i+1 then a.2 j&&b.2 j else a.2 j):=fun v hv=>by
   rw [s1];congr 2;funext j;rw [←hG,hv];by_cases h1:j=i
   ·subst h1;simp
   ·by_cases h2:j<i
    ·simp [h1,h2,show j<i+1 by omega]
    ·simp [h1,h2,show ¬j<i+1 by omega]
  have m1:=d1 (aI a.1) G i hlt;have m2:=d0 b.2 i hlt;have hi2:1≤64-i:=by omega
  rw [hGi] at m1;cases ha:a.2 i with
  |false =>
   rw [ha] at m1 hnext;have hn:=hnext false (by simp);simp [go_sem,e2,e3,e4,e5,hm,hlt,hlt',hi1,hi2,qm,m1,m2,hn,w1];exact Keep.mk' ⟨by simp [go_sem,e2],by simp [go_sem,e3],by simp [go_sem,e4],by simp [go_sem],by simp [go_sem]⟩
  |true =>
   rw [ha] at m1 hnext;have hn:=hnext (b.2 i) (by simp);simp [go_sem,e2,e3,e4,e5,hm,hlt,hlt',hi1,hi2,qm,m1,m2,hn,w1];exact Keep.mk' ⟨by simp [go_sem,e2],by simp [go_sem,e3],by simp [go_sem,e4],by simp [go_sem],by simp [go_sem]⟩
 ·have hie:i=64:=by omega
  subst hie;simp [go_sem,e2,e3,e4,e5,hm,qm,tk,pc];rw [if_pos (qV _)];simp [go_sem,e2,e3,e4,e5,hm,qm,tk,pc];have e:(aI a.1 :: hB fun j=>if j<64 then a.2 j&&b.2 j else a.2 j)=cRS (intS a b):=by
   exact congrArg (aI a.1 :: ·) (uh fun j hj=>if_pos hj)
  rw [e];exact .hf _ (yp _)
def trS (a:RS):RS:=(2,fun j=>decide (j<16)&&a.2 (j % 4*4+j / 4))
theorem p8 (a:RS):qt Tryz.prog 152 [eRS a] (eRS (trS a)):=by
 refine qSQ Tryz.call152 Tryz.func152 rfl {} ?_;simp [go_sem,qm];refine ⟨qV _,?_⟩;refine qD.upK 16 (fun i st=>st.tm 1 = .ip (cRS a)∧st.tm 2 = .ptr 0 0∧st.tm 3 = .ptr 1 0∧st.tm 4=aI i∧st.mu=[.arr (aI 0 :: hB fun _=>false),.arr (aI 2 :: hB (fun j=>decide (j<16∧j % 4*4+j / 4<i)&&a.2 (j % 4*4+j / 4)))]) ?_ ?_
 ·exact ⟨by simp [go_sem],by simp [go_sem],by simp [go_sem],by simp [go_sem],by simp [go_sem];first | rfl | exact ⟨rfl,rfl⟩⟩
 rintro i st hi ⟨e1,e2,e3,e4,hm⟩;by_cases hlt:i<16
 ·have hlt':(i:Int)<16:=by omega
  have w1:IntKind.i64.wrap ((i:Int)+1)=(i:Int)+1:=qy (by omega) (by omega);obtain ⟨q,hq⟩:∃ q:Nat,q=i % 4*4+i / 4:=⟨_,rfl⟩;have q16:q<16:=by omega
  have w2:IntKind.i64.wrap ((i:Int).tmod 4)=((i % 4:Nat):Int):=by
   rw [Int.tmod_eq_emod_of_nonneg (by omega)];rw [qy (by omega) (by omega)];omega
  have w3:IntKind.i64.wrap (IntKind.i64.wrap ((i:Int).tmod 4*4)+IntKind.i64.wrap ((i:Int) / 4))=(q:Int):=by
   have x1:IntKind.i64.wrap ((i:Int) % 4*4)=(i:Int) % 4*4:=qy (by omega) (by omega);have x2:IntKind.i64.wrap ((i:Int) / 4)=(i:Int) / 4:=qy (by omega) (by omega);rw [Int.tmod_eq_emod_of_nonneg (by omega),x1,x2,qy (by omega) (by omega)];omega
  generalize hG:(fun j=>decide (j<16∧j % 4*4+j / 4<i)&&a.2 (j % 4*4+j / 4))=G at *
  have hnext:(aI 2 :: hB G).set (1+q) (aB (a.2 i))=aI 2 :: hB (fun j=>decide (j<16∧j % 4*4+j / 4<i+1)&&a.2 (j % 4*4+j / 4)):=by
   rw [s1];refine congrArg (aI 2 :: ·) (uh fun j hj=>?_);rw [←hG];by_cases h1:j=q
   ·have h2:j % 4*4+j / 4=i:=by omega
    rw [if_pos h1,h2,decide_eq_true ⟨by omega,by omega⟩];rfl
   ·have h2:¬(j<16∧j % 4*4+j / 4=i):=fun h=>h1 (by omega)
    rw [if_neg h1];have h3:(j<16∧j % 4*4+j / 4<i+1)=(j<16∧j % 4*4+j / 4<i):=propext ⟨fun h=>⟨h.1,by omega⟩,fun h=>⟨h.1,by omega⟩⟩;rw [show decide (j<16∧j % 4*4+j / 4<i+1)=decide (j<16∧j % 4*4+j / 4<i) from decide_eq_decide.2 (by rw [h3])]
  have m2:=d0 a.2 i (by omega);have h64:(i:Int)<64:=by omega
  have hi2:1≤64-i:=by omega
  simp [go_sem,e1,e2,e3,e4,hm,hlt,hlt',h64,hi2,m2,qm,w1,w3,show (q:Int)<64 by omega,show 1+q≤64 by omega,hnext];exact Keep.mk' ⟨by simp [go_sem,e1],by simp [go_sem,e2],by simp [go_sem,e3],by simp [go_sem],by simp [go_sem]⟩
 ·have hie:i=16:=by omega
  subst hie;have e:hB (fun j=>decide (j<16∧j % 4*4+j / 4<16)&&a.2 (j % 4*4+j / 4))=hB (trS a).2:=by
   refine uh fun j hj=>?_
   rw [show decide (j<16∧j % 4*4+j / 4<16)=decide (j<16) from decide_eq_decide.2 ⟨fun h=>h.1,fun h=>⟨h,by omega⟩⟩];rfl
  rw [e] at hm;have hT:eRS (trS a) = .agg (aI 2 :: hB (trS a).2):=rfl;rw [hT];generalize (trS a).2=T at *
  simp [go_sem,e1,e2,e3,e4,hm,qm,tk,pc];rw [if_pos (qV _)];simp [go_sem,e1,e2,e3,e4,hm,qm,tk,pc];exact .hf _ (yp (2,T))
def uV (a b:RS) (j:Nat):Bool:=a.2 (j / szA b.1)&&b.2 (j % szA b.1)
def WQ (a b:RS):RS:=(a.1+b.1,fun j=>decide (j<szA a.1*szA b.1)&&uV a b j)
theorem qfZ (f:Nat→Bool) (p:Nat) (v:Bool) (hv:v=f p):∀ j,(if j=p then v else decide (j<p)&&f j)=(decide (j<p+1)&&f j):=fun j=>by
 by_cases h1:j=p
 ·subst h1;simp [hv]
 ·rw [if_neg h1,show decide (j<p+1)=decide (j<p) from decide_eq_decide.2 (by omega)]
theorem p9 (a b:RS) (ha:0≤a.1∧a.1≤1000) (hb:0≤b.1∧b.1≤1000):qt Tryz.prog 151 [eRS a,eRS b] (eRS (WQ a b)):=by
 refine qSQ Tryz.call151 Tryz.func151 rfl {} ?_;have w0:IntKind.i64.wrap (a.1+b.1)=a.1+b.1:=qy (by omega) (by omega);have hsa:=ZG a.1;have hsb:=ZG b.1;have ca:=YQ a.1;have cb:=YQ b.1;have hf:∀ j,uV a b j=(a.2 (j / szA b.1)&&b.2 (j % szA b.1)):=fun _=>rfl
 simp [go_sem,qm];refine ⟨qV _,qV _,?_⟩;simp [go_sem,qm,w0];refine qc.pure cb (.cons (.hf (HF.sc _)) .nil) ?_;generalize hE:WQ a b=E;have hE1:E=(a.1+b.1,fun j=>decide (j<szA a.1*szA b.1)&&uV a b j):=hE.symm;clear hE;generalize uV a b=F at *
 generalize szA a.1=sa at *
 generalize szA b.1=n at *
 simp [go_sem,qm,w0];refine qD.upK sa (fun i st=>st.tm 2 = .ip (cRS a)∧st.tm 3 = .ip (cRS b)∧st.tm 4 = .ptr 0 0∧st.tm 5 = .ptr 1 0∧st.tm 6=aI n∧st.tm 7=aI i∧st.mu=[.arr (aI 0 :: hB fun _=>false),.arr (aI (a.1+b.1) :: hB (fun j=>decide (j<i*n)&&F j))]) ?_ ?_
 ·exact ⟨by simp [go_sem],by simp [go_sem],by simp [go_sem],by simp [go_sem],by simp [go_sem],by simp [go_sem],by simp [go_sem];first | rfl | exact ⟨rfl,rfl⟩⟩
 rintro i st hi ⟨e2,e3,e4,e5,e6,e7,hm⟩;simp [go_sem,e2,e3,e4,e5,e6,e7,hm];refine qc.pure ca (.cons (.hf (HF.sc _)) .nil) ?_;by_cases hlt:i<sa
 ·have w1:IntKind.i64.wrap ((i:Int)+1)=(i:Int)+1:=qy (by omega) (by omega)
  simp [go_sem,e2,e3,e4,e5,e6,e7,hm,hlt];refine qD.upK n (fun k st=>st.tm 2 = .ip (cRS a)∧st.tm 3 = .ip (cRS b)∧st.tm 4 = .ptr 0 0∧st.tm 5 = .ptr 1 0∧st.tm 6=aI n∧st.tm 7=aI i∧st.tm 8=aI k∧st.mu=[.arr (aI 0 :: hB fun _=>false),.arr (aI (a.1+b.1) :: hB (fun j=>decide (j<i*n+k)&&F j))]) ?_ ?_
  ·exact ⟨by simp [go_sem,e2],by simp [go_sem,e3],by simp [go_sem,e4],by simp [go_sem,e5],by simp [go_sem,e6],by simp [go_sem,e7],by simp [go_sem],by simp [go_sem,hm]⟩
  clear e2 e3 e4 e5 e6 e7 hm;rintro k st hk ⟨e2,e3,e4,e5,e6,e7,e8,hm⟩;by_cases hkl:k<n
  ·have w2:IntKind.i64.wrap ((k:Int)+1)=(k:Int)+1:=qy (by omega) (by omega)
   obtain ⟨p,hp⟩:∃ p:Nat,p=i*n+k:=⟨_,rfl⟩;have hpi:((i:Int)*n+k)=(p:Int):=by rw [hp];push_cast;rfl
   have hin:i*n≤63*64:=Nat.mul_le_mul (by omega) (by omega);have w3:IntKind.i64.wrap ((i:Int)*n)=(i:Int)*n:=by
    have:((i*n:Nat):Int)=(i:Int)*n:=by push_cast;rfl
    rw [←this];exact qy (by omega) (by omega)
   have w4:IntKind.i64.wrap (p:Int)=(p:Int):=qy (by omega) (by omega);have hFp:F p=(a.2 i&&b.2 k):=by
    rw [hf,hp,Nat.add_comm,Nat.add_mul_div_right _ _ (by omega),Nat.add_mul_mod_self_right,Nat.div_eq_of_lt hkl,Nat.mod_eq_of_lt hkl,Nat.zero_add]
   have m1:=d0 a.2 i (by omega);have m2:=d0 b.2 k (by omega);have hi2:1≤64-i:=by omega
   have hk2:1≤64-k:=by omega
   have hi3:(i:Int)<64:=by omega
   have hk3:(k:Int)<64:=by omega
   have hq:∀ x:AV,(x :: hB (fun j=>decide (j<p)&&F j)).set (1+p) (aB true)=x :: hB (fun j=>if j=p then true else decide (j<p)&&F j):=fun x=>s1 x _ p true
   rw [←hp] at hm;have hgo:F p=true→(fun j=>if j=p then true else decide (j<p)&&F j)=(fun j=>decide (j<p+1)&&F j):=fun h=>funext (qfZ F p true h.symm)
   have hq2:F p=true→∀ x:AV,(x :: hB (fun j=>decide (j<p)&&F j)).set (1+p) (AV.sc (Value.bool true))=x :: hB (fun j=>decide (j<p+1)&&F j):=fun h x=>by rw [←hgo h];exact hq x
   have hst:(F p=false∨64≤p)→hB (fun j=>decide (j<p)&&F j)=hB (fun j=>decide (j<p+1)&&F j):=fun h=>uh fun j hj=>by
    by_cases h1:j=p
    ·rcases h with h | h
     ·rw [h1,h];simp
     ·omega
    ·rw [show decide (j<p+1)=decide (j<p) from decide_eq_decide.2 (by omega)]
   have done:∀ st':St,st'.tm 2 = .ip (cRS a)→st'.tm 3 = .ip (cRS b)→st'.tm 4 = .ptr 0 0→st'.tm 5 = .ptr 1 0→st'.tm 6=aI n→st'.tm 7=aI i→st'.tm 8=aI (k+1:Nat)→st'.mu=[.arr (aI 0 :: hB fun _=>false),.arr (aI (a.1+b.1) :: hB (fun j=>decide (j<p+1)&&F j))]→Keep (fun st=>st.tm 2 = .ip (cRS a)∧st.tm 3 = .ip (cRS b)∧st.tm 4 = .ptr 0 0∧st.tm 5 = .ptr 1 0∧st.tm 6=aI n∧st.tm 7=aI i∧st.tm 8=aI (k+1:Nat)∧st.mu=[.arr (aI 0 :: hB fun _=>false),.arr (aI (a.1+b.1) :: hB (fun j=>decide (j<i*n+(k+1))&&F j))]) .mk st':=
    fun st' b1 b2 b3 b4 b5 b6 b7 b8=>Keep.mk' ⟨b1,b2,b3,b4,b5,b6,b7,by rw [b8,hp];rfl⟩
   cases hai:a.2 i with
   |false =>
    rw [hai] at m1;simp [go_sem,e2,e3,e4,e5,e6,e7,e8,hm,hkl,qm,m1,m2,hi2,hk2,hi3,hk3,w2];exact done _ (by simp [go_sem,e2]) (by simp [go_sem,e3]) (by simp [go_sem,e4]) (by simp [go_sem,e5]) (by simp [go_sem,e6]) (by simp [go_sem,e7]) (by simp [go_sem]) (by simp [go_sem,hst (.inl (by rw [hFp,hai];rfl))])
   |true =>
    rw [hai] at m1;cases hbk:b.2 k with
    |false =>
     rw [hbk] at m2;simp [go_sem,e2,e3,e4,e5,e6,e7,e8,hm,hkl,qm,m1,m2,hi2,hk2,hi3,hk3,w2];exact done _ (by simp [go_sem,e2]) (by simp [go_sem,e3]) (by simp [go_sem,e4]) (by simp [go_sem,e5]) (by simp [go_sem,e6]) (by simp [go_sem,e7]) (by simp [go_sem]) (by simp [go_sem,hst (.inl (by rw [hFp,hai,hbk];rfl))])
    |true =>
     rw [hbk] at m2;by_cases h64:(p:Int)<64
     ·simp [go_sem,e2,e3,e4,e5,e6,e7,e8,hm,hkl,qm,m1,m2,hi2,hk2,hi3,hk3,w2,w3,hpi,w4,h64,show 1+p≤64 by omega,hq2 (by rw [hFp,hai,hbk];rfl)]
      exact done _ (by simp [go_sem,e2]) (by simp [go_sem,e3]) (by simp [go_sem,e4]) (by simp [go_sem,e5]) (by simp [go_sem,e6]) (by simp [go_sem,e7]) (by simp [go_sem]) (by simp [go_sem])
     ·simp [go_sem,e2,e3,e4,e5,e6,e7,e8,hm,hkl,qm,m1,m2,hi2,hk2,hi3,hk3,w2,w3,hpi,w4,h64]
      exact done _ (by simp [go_sem,e2]) (by simp [go_sem,e3]) (by simp [go_sem,e4]) (by simp [go_sem,e5]) (by simp [go_sem,e6]) (by simp [go_sem,e7]) (by simp [go_sem]) (by simp [go_sem,hst (.inr (by omega))])
  ·have hke:k=n:=by omega
   subst hke;rw [show i*k+k=(i+1)*k by rw [Nat.add_mul,Nat.one_mul]] at hm;simp [go_sem,e2,e3,e4,e5,e6,e7,e8,hm,w1];exact ⟨hlt,Keep.mk' ⟨by simp [go_sem,e2],by simp [go_sem,e3],by simp [go_sem,e4],by simp [go_sem,e5],by simp [go_sem,e6],by simp [go_sem],by simp [go_sem]⟩⟩
 ·have hie:i=sa:=by omega
  subst hie;rw [hE1];generalize (fun j=>decide (j<i*n)&&F j)=T at *
  simp [go_sem,e2,e3,e4,e5,e6,e7,hm,qm,tk,pc];rw [if_pos (qV _)];simp [go_sem,e2,e3,e4,e5,e6,e7,hm,qm,tk,pc];exact .hf _ (yp (_,T))
def rowJ (a b:RS) (i kk j:Nat):Bool:=(List.range kk).any fun k=>decide (i / 4*(szA b.1 / 4)+k % (szA b.1 / 4)=j)&&(decide (i % 4=k / (szA b.1 / 4))&&(a.2 i&&b.2 k))
def Ql (a b:RS):RS:=(a.1+b.1-2,fun j=>(List.range (szA a.1)).any fun i=>rowJ a b i (szA b.1) j)
theorem qf0 (a b:RS) (i k j:Nat):rowJ a b i (k+1) j=(rowJ a b i k j||(decide (i / 4*(szA b.1 / 4)+k % (szA b.1 / 4)=j)&&(decide (i % 4=k / (szA b.1 / 4))&&(a.2 i&&b.2 k)))):=by
 unfold rowJ;rw [List.range_succ,List.any_append];simp
theorem qf1 {k:Int} (h:1≤k):4≤szA k:=by unfold szA;split<;>(try split)<;>(try split)<;>omega
theorem wX (a b:RS) (ha:0≤a.1∧a.1≤1000) (hb:1≤b.1∧b.1≤1000):qt Tryz.prog 150 [eRS a,eRS b] (eRS (Ql a b)):=by
 refine qSQ Tryz.call150 Tryz.func150 rfl {} ?_;have w0:IntKind.i64.wrap (a.1+b.1)=a.1+b.1:=qy (by omega) (by omega);have w00:IntKind.i64.wrap (a.1+b.1-2)=a.1+b.1-2:=qy (by omega) (by omega);have hsa:=ZG a.1;have hsb:=ZG b.1;have hge:=qf1 hb.1;have ca:=YQ a.1;have cb:=YQ b.1;have hR:∀ i k j,rowJ a b i (k+1) j=(rowJ a b i k j||(decide (i / 4*(szA b.1 / 4)+k % (szA b.1 / 4)=j)&&(decide (i % 4=k / (szA b.1 / 4))&&(a.2 i&&b.2 k)))):=qf0 a b;have hR0:∀ i j,rowJ a b i 0 j=false:=fun i j=>rfl
 simp [go_sem,qm];refine ⟨qV _,qV _,?_⟩;simp [go_sem,qm,w0,w00];refine qc.pure cb (.cons (.hf (HF.sc _)) .nil) ?_;generalize hE:Ql a b=E;have hE1:E=(a.1+b.1-2,fun j=>(List.range (szA a.1)).any fun i=>rowJ a b i (szA b.1) j):=hE.symm;clear hE;generalize rowJ a b=F at *
 generalize szA a.1=sa at *
 generalize szA b.1=sb at *
 obtain ⟨n,hn⟩:∃ n:Nat,n=sb / 4:=⟨_,rfl⟩;have hn1:1≤n∧n≤16:=by omega
 have wn:IntKind.i64.wrap ((sb:Int) / 4)=(n:Int):=by rw [qy (by omega) (by omega)];omega
 rw [←hn] at hR;simp [go_sem,qm,w0,wn];refine qD.upK sa (fun i st=>st.tm 2 = .ip (cRS a)∧st.tm 3 = .ip (cRS b)∧st.tm 4 = .ptr 0 0∧st.tm 5 = .ptr 1 0∧st.tm 6=aI n∧st.tm 7=aI i∧st.mu=[.arr (aI 0 :: hB fun _=>false),.arr (aI (a.1+b.1-2) :: hB (fun j=>(List.range i).any fun i=>F i sb j))]) ?_ ?_
 ·exact ⟨by simp [go_sem],by simp [go_sem],by simp [go_sem],by simp [go_sem],by simp [go_sem],by simp [go_sem],by simp [go_sem];first | rfl | exact ⟨rfl,rfl⟩⟩
 rintro i st hi ⟨e2,e3,e4,e5,e6,e7,hm⟩;simp [go_sem,e2,e3,e4,e5,e6,e7,hm];refine qc.pure ca (.cons (.hf (HF.sc _)) .nil) ?_;by_cases hlt:i<sa
 ·have w1:IntKind.i64.wrap ((i:Int)+1)=(i:Int)+1:=qy (by omega) (by omega)
  generalize hP:(fun j=>(List.range i).any fun i=>F i sb j)=P at *
  simp [go_sem,e2,e3,e4,e5,e6,e7,hm,hlt];refine qD.upK sb (fun k st=>st.tm 2 = .ip (cRS a)∧st.tm 3 = .ip (cRS b)∧st.tm 4 = .ptr 0 0∧st.tm 5 = .ptr 1 0∧st.tm 6=aI n∧st.tm 7=aI i∧st.tm 8=aI k∧st.mu=[.arr (aI 0 :: hB fun _=>false),.arr (aI (a.1+b.1-2) :: hB (fun j=>P j||F i k j))]) ?_ ?_
  ·exact ⟨by simp [go_sem,e2],by simp [go_sem,e3],by simp [go_sem,e4],by simp [go_sem,e5],by simp [go_sem,e6],by simp [go_sem,e7],by simp [go_sem],by simp [go_sem,hm,hR0]⟩
  clear e2 e3 e4 e5 e6 e7 hm;rintro k st hk ⟨e2,e3,e4,e5,e6,e7,e8,hm⟩;simp [go_sem,e2,e3,e4,e5,e6,e7,e8,hm];refine qc.pure cb (.cons (.hf (HF.sc _)) .nil) ?_;by_cases hkl:k<sb
  ·have w2:IntKind.i64.wrap ((k:Int)+1)=(k:Int)+1:=qy (by omega) (by omega)
   obtain ⟨p,hp⟩:∃ p:Nat,p=i / 4*n+k % n:=⟨_,rfl⟩;have hkn:k % n<n:=Nat.mod_lt _ (by omega);have hin:i / 4*n≤15*16:=Nat.mul_le_mul (by omega) (by omega);have y1:((i / 4:Nat):Int)=(i:Int) / 4:=by omega
   have y2:((i / 4*n:Nat):Int)=(i:Int) / 4*n:=by rw [←y1];push_cast;rfl
   have y3:((k % n:Nat):Int)=(k:Int) % n:=rfl;have y4:((k / n:Nat):Int)=(k:Int) / n:=rfl;have hkd:k / n≤64:=Nat.le_trans (Nat.div_le_self k n) (by omega);have x1:IntKind.i64.wrap ((i:Int) / 4)=(i:Int) / 4:=qy (by omega) (by omega);have x2:IntKind.i64.wrap ((i:Int) / 4*n)=(i:Int) / 4*n:=by rw [←y2];exact qy (by omega) (by omega)
   have x4:IntKind.i64.wrap ((i:Int) / 4*n+(k:Int) % n)=(p:Int):=by rw [←y2,←y3,qy (by omega) (by omega),hp];push_cast;rfl
   have x4t:IntKind.i64.wrap ((i:Int) / 4*n+(k:Int).tmod n)=(p:Int):=by rw [Int.tmod_eq_emod_of_nonneg (by omega)];exact x4
   have x5:IntKind.i64.wrap ((k:Int) / n)=(k:Int) / n:=by
    rw [←y4];clear y4;generalize k / n=c at hkd ⊢;exact qy (by omega) (by omega)
   have hn0:¬n=0:=by omega
   have m1:=d0 a.2 i (by omega);have m2:=d0 b.2 k (by omega);have hi2:1≤64-i:=by omega
   have hk2:1≤64-k:=by omega
   have hi3:(i:Int)<64:=by omega
   have hk3:(k:Int)<64:=by omega
   have hst:((decide (i % 4=k / n)&&(a.2 i&&b.2 k))=false∨64≤p)→hB (fun j=>P j||F i k j)=hB (fun j=>P j||F i (k+1) j):=fun h=>uh fun j hj=>by
    rw [hR,←hp];rcases h with h | h
    ·rw [h,Bool.and_false,Bool.or_false]
    ·rw [decide_eq_false (by omega),Bool.false_and,Bool.or_false]
   have hq2:(decide (i % 4=k / n)&&(a.2 i&&b.2 k))=true→∀ x:AV,(x :: hB (fun j=>P j||F i k j)).set (1+p) (AV.sc (Value.bool true))=x :: hB (fun j=>P j||F i (k+1) j):=fun h x=>by
    refine (s1 x _ p true).trans (congrArg (x :: ·) (uh fun j hj=>?_));rw [hR,←hp,h,Bool.and_true];by_cases h1:j=p
    ·rw [if_pos h1,h1];simp
    ·rw [if_neg h1,decide_eq_false (fun e=>h1 e.symm),Bool.or_false]
   have done:∀ st':St,st'.tm 2 = .ip (cRS a)→st'.tm 3 = .ip (cRS b)→st'.tm 4 = .ptr 0 0→st'.tm 5 = .ptr 1 0→st'.tm 6=aI n→st'.tm 7=aI i→st'.tm 8=aI (k+1:Nat)→st'.mu=[.arr (aI 0 :: hB fun _=>false),.arr (aI (a.1+b.1-2) :: hB (fun j=>P j||F i (k+1) j))]→Keep (fun st=>st.tm 2 = .ip (cRS a)∧st.tm 3 = .ip (cRS b)∧st.tm 4 = .ptr 0 0∧st.tm 5 = .ptr 1 0∧st.tm 6=aI n∧st.tm 7=aI i∧st.tm 8=aI (k+1:Nat)∧st.mu=[.arr (aI 0 :: hB fun _=>false),.arr (aI (a.1+b.1-2) :: hB (fun j=>P j||F i (k+1) j))]) .mk st':=
    fun st' b1 b2 b3 b4 b5 b6 b7 b8=>Keep.mk' ⟨b1,b2,b3,b4,b5,b6,b7,b8⟩
   cases hai:a.2 i with
   |false =>
    rw [hai] at m1;simp [go_sem,e2,e3,e4,e5,e6,e7,e8,hm,hkl,qm,x1,x2,x4,hn0,m1,m2,hi2,hi3,hk2,hk3,w2];exact done _ (by simp [go_sem,e2]) (by simp [go_sem,e3]) (by simp [go_sem,e4]) (by simp [go_sem,e5]) (by simp [go_sem,e6]) (by simp [go_sem,e7]) (by simp [go_sem]) (by simp [go_sem,hst (.inl (by rw [hai];simp))])
   |true =>
    rw [hai] at m1;cases hbk:b.2 k with
    |false =>
     rw [hbk] at m2;simp [go_sem,e2,e3,e4,e5,e6,e7,e8,hm,hkl,qm,x1,x2,x4,hn0,m1,m2,hi2,hi3,hk2,hk3,w2];exact done _ (by simp [go_sem,e2]) (by simp [go_sem,e3]) (by simp [go_sem,e4]) (by simp [go_sem,e5]) (by simp [go_sem,e6]) (by simp [go_sem,e7]) (by simp [go_sem]) (by simp [go_sem,hst (.inl (by rw [hbk];simp))])
    |true =>
     rw [hbk] at m2;by_cases hq:i % 4=k / n
     ·have hqi:(i:Int).tmod 4=(k:Int) / n:=by rw [Int.tmod_eq_emod_of_nonneg (by omega),←y4,←hq];rfl
      by_cases h64:(p:Int)<64
      ·simp [go_sem,e2,e3,e4,e5,e6,e7,e8,hm,hkl,qm,x1,x2,x4,x4t,x5,hn0,m1,m2,hi2,hi3,hk2,hk3,w2,hqi,h64,show 1+p≤64 by omega,hq2 (by rw [decide_eq_true hq,hai,hbk];rfl)]
       exact done _ (by simp [go_sem,e2]) (by simp [go_sem,e3]) (by simp [go_sem,e4]) (by simp [go_sem,e5]) (by simp [go_sem,e6]) (by simp [go_sem,e7]) (by simp [go_sem]) (by simp [go_sem])
      ·simp [go_sem,e2,e3,e4,e5,e6,e7,e8,hm,hkl,qm,x1,x2,x4,x4t,x5,hn0,m1,m2,hi2,hi3,hk2,hk3,w2,hqi,h64]
       exact done _ (by simp [go_sem,e2]) (by simp [go_sem,e3]) (by simp [go_sem,e4]) (by simp [go_sem,e5]) (by simp [go_sem,e6]) (by simp [go_sem,e7]) (by simp [go_sem]) (by simp [go_sem,hst (.inr (by omega))])
     ·have hqi:¬(i:Int).tmod 4=(k:Int) / n:=fun e=>hq (by rw [Int.tmod_eq_emod_of_nonneg (by omega),←y4] at e;exact Int.ofNat.inj e)
      simp [go_sem,e2,e3,e4,e5,e6,e7,e8,hm,hkl,qm,x1,x2,x4,x4t,x5,hn0,m1,m2,hi2,hi3,hk2,hk3,w2,hqi];exact done _ (by simp [go_sem,e2]) (by simp [go_sem,e3]) (by simp [go_sem,e4]) (by simp [go_sem,e5]) (by simp [go_sem,e6]) (by simp [go_sem,e7]) (by simp [go_sem]) (by simp [go_sem,hst (.inl (by rw [decide_eq_false hq];rfl))])
  ·have hke:k=sb:=by omega
   subst hke;simp [go_sem,e2,e3,e4,e5,e6,e7,e8,hm,w1];exact ⟨hlt,Keep.mk' ⟨by simp [go_sem,e2],by simp [go_sem,e3],by simp [go_sem,e4],by simp [go_sem,e5],by simp [go_sem,e6],by simp [go_sem],by simp [go_sem];rw [←hP]⟩⟩
 ·have hie:i=sa:=by omega
  subst hie;rw [hE1];generalize (fun j=>(List.range i).any fun i=>F i sb j)=T at *
  simp [go_sem,e2,e3,e4,e5,e6,e7,hm,qm,tk,pc];rw [if_pos (qV _)];simp [go_sem,e2,e3,e4,e5,e6,e7,hm,qm,tk,pc];exact .hf _ (yp (_,T))
end Go.Proofs.YtcfopdccdeeleaaGreatDoor.QE


namespace Go.Proofs.YtcfopdccdeeleaaGreatDoor.PB
open Go Go.Ev Go.Proofs Go.Proofs.YtcfopdccdeeleaaGreatDoor P1 P2 Y1 Y2 Y3 Y4 Y5 Y6 Y7 Y8 YF Y9 Y10 Y12 Y14 Y16 YV YW YX PA Q4 Q5 Q6 Q7 Q8 Q9 QA QB
def Sub (a b:Kd):Prop:=a.ar=b.ar∧∀ t,t∈a.ts→t∈b.ts
theorem qf2 {n m:Nat} {a a' b b':List Tp} (ha:∀ t,t∈a→t∈a') (hb:∀ t,t∈b→t∈b'):∀ t,t∈v6 n m a b→t∈v6 n m a' b':=fun t ht=>by
 obtain ⟨x,y,⟨hx,hy⟩,hf⟩:=uU.1 ht;exact uU.2 ⟨x,y,⟨ha x hx,hb y hy⟩,hf⟩
theorem WR {a a' b b':Kd} (ha:Sub a a') (hb:Sub b b'):Sub (zO a b) (zO a' b'):=by
 refine ⟨by simp only [zO];rw [ha.1,hb.1],fun t ht=>?_⟩;simp only [zO] at ht ⊢;rw [←ha.1,←hb.1];exact qf2 ha.2 hb.2 t ht
theorem ZH {a b:Kd} {t:Tp}:t∈(kSum a b).ts↔t∈a.ts∨t∈b.ts:=by
 show t∈uni (uni [] a.ts) b.ts↔_;rw [vr,vr];simp
theorem Sub.refl (a:Kd):Sub a a:=⟨rfl,fun _ h=>h⟩
theorem Sub.trans {a b c:Kd} (h:Sub a b) (k:Sub b c):Sub a c:=⟨h.1.trans k.1,fun t ht=>k.2 t (h.2 t ht)⟩
theorem WS (a b:Kd):Sub a (kSum a b):=⟨rfl,fun t ht=>ZH.2 (.inl ht)⟩
def Vy (k:Kd):Prop:=∀ t,t∈(zO k k).ts→t∈k.ts
theorem ga:∀(f n:Nat) (a:Kd),Sub a (cloN f n a)
 | 0,n,a => .refl a
 |f+1,n,a=>by
  unfold cloN;split
  ·exact (WS a _).trans (ga f _ _)
  ·exact .refl a
theorem gb {S:Kd} (hS:Vy S):∀(f n:Nat) (a:Kd),Sub a S→Sub (cloN f n a) S
 | 0,n,a,h=>h
 |f+1,n,a,h=>by
  unfold cloN;split
  ·refine gb hS f _ _ ⟨h.1,fun t ht=>?_⟩
   rcases ZH.1 ht with ht | ht
   ·exact h.2 t ht
   ·exact hS t ((WR h h).2 t ht)
  ·exact h
theorem ge {ns:Nat} (hns:ns≤4):∀(f n:Nat) (a:Kd),okKd ns a→a.ar=2→70≤f+n→(n=0∨∃ p,okKd ns p∧p.ar=2∧n=p.ts.length∧a=kSum p (zO p p))→Vy (cloN f n a)
 | 0,n,a,ha,h2,hf,hI=>by
  rcases hI with rfl | ⟨p,hp,_,rfl,_⟩
  ·omega
  ·have:=okKd.le64 hp hns
   omega
 |f+1,n,a,ha,h2,hf,hI=>by
  unfold cloN;split
  ·rename_i hlt
   have hj:okKd ns (zO a a):=Ys ha ha (by omega) (by omega);refine ge hns f _ _ (Yq ha hj (by simp only [zO];omega)) h2 (by omega) (.inr ⟨a,ha,h2,rfl,rfl⟩)
  ·rename_i hge
   rcases hI with rfl | ⟨p,hp,hp2,rfl,rfl⟩
   ·have:a.ts=[]:=List.eq_nil_of_length_eq_zero (by omega)
    intro t ht;obtain ⟨x,y,⟨hx,_⟩,_⟩:=uU.1 ht;rw [this] at hx;exact absurd hx zb
   ·have hsub:∀ t,t∈(kSum p (zO p p)).ts→t∈p.ts:=by
     have hnd:(kSum p (zO p p)).ts.Nodup:=ha.nd;have hps:∀ t,t∈p.ts→t∈(kSum p (zO p p)).ts:=(WS p _).2;intro t ht;by_cases hm:t∈p.ts
     ·exact hm
     ·exfalso
      have hnd2:(t :: p.ts).Nodup:=List.nodup_cons.2 ⟨hm,hp.nd⟩;have:=List.Nodup.length_le_of_subset hnd2 (l₂:=(kSum p (zO p p)).ts) (fun x hx=>by
       rcases qK.1 hx with rfl | hx
       ·exact ht
       ·exact hps x hx)
      simp only [List.length_cons] at this;omega
    intro t ht;have hs:Sub (kSum p (zO p p)) p:=⟨rfl,hsub⟩;exact ZH.2 (.inr ((WR hs hs).2 t ht))
section
variable {ts:TS} (ok:okTS ts) (a b d:Nd)
include ok
end
theorem Vz {k:Kd} {l:List Int} (h:(l.length:Int)=k.ar) (h3:l.length≤3):rowT k (pad l)=l:=by
 unfold rowT;rw [show k.ar.toNat=l.length by omega,uW h3 _ (qB _),jC]
end Go.Proofs.YtcfopdccdeeleaaGreatDoor.PB


namespace Go.Proofs.YtcfopdccdeeleaaGreatDoor.QF
open Go Go.Ev Go.Proofs Go.Proofs.YtcfopdccdeeleaaGreatDoor Y1 Y2 Y3 P1 P2 PA PB QD QE
def dig (k:Int) (j:Nat):List Int:=if k=0 then [] else if k=1 then [(j:Int)] else if k=2 then [((j / 4:Nat):Int),((j % 4:Nat):Int)] else [((j / 16:Nat):Int),((j / 4 % 4:Nat):Int),((j % 4:Nat):Int)]
theorem ui {k:Int} (h:0≤k∧k≤3) (j:Nat):((dig k j).length:Int)=k:=by
 unfold dig;split
 ·simp;omega
 ·split
  ·simp;omega
  ·split
   ·simp;omega
   ·simp;omega
theorem szA1:szA 1=4:=rfl
theorem szA2:szA 2=16:=rfl
theorem szA3:szA 3=64:=rfl
theorem YT {p:Int} (h:0≤p∧p≤3):p=0∨p=1∨p=2∨p=3:=by omega
theorem gg {p q:Int} (hp:0≤p) (hq:0≤q) (h:p+q≤3) {j:Nat} (hj:j<szA (p+q)):j / szA q<szA p∧j % szA q<szA q∧dig (p+q) j=dig p (j / szA q)++dig q (j % szA q):=by
 rcases YT (p:=p) ⟨hp,by omega⟩ with rfl | rfl | rfl | rfl<;>rcases YT (p:=q) ⟨hq,by omega⟩ with rfl | rfl | rfl | rfl<;>first | (exfalso;omega) | skip
 all_goals simp [dig,szA] at hj ⊢
 all_goals omega
theorem WT {p q:Int} (hp:0≤p) (hq:0≤q) (h:p+q≤3) {i k:Nat} (hi:i<szA p) (hk:k<szA q):i*szA q+k<szA (p+q)∧dig (p+q) (i*szA q+k)=dig p i++dig q k:=by
 rcases YT (p:=p) ⟨hp,by omega⟩ with rfl | rfl | rfl | rfl<;>rcases YT (p:=q) ⟨hq,by omega⟩ with rfl | rfl | rfl | rfl<;>first | (exfalso;omega) | skip
 all_goals simp [dig,szA] at hi hk ⊢
 all_goals omega
theorem WU {p:Int} (h:0≤p∧p≤3) {i j:Nat} (hi:i<szA p) (hj:j<szA p) (e:dig p i=dig p j):i=j:=by
 rcases YT h with rfl | rfl | rfl | rfl
 all_goals simp [dig,szA] at hi hj e
 all_goals omega
theorem gh {p:Int} (h:1≤p∧p≤3) {l:List Int} (hl:(l.length:Int)=p) (hx:∀ x,x∈l→0≤x∧x<4):∃ i,i<szA p∧l=dig p i:=by
 match l,hl,hx with
 | [],hl,_=>simp at hl;omega
 | [a],hl,hx =>
  obtain rfl:p=1:=by simpa using hl.symm
  have:=hx a (by simp);exact ⟨a.toNat,by rw [szA1];omega,by simp [dig];omega⟩
 | [a,b],hl,hx =>
  obtain rfl:p=2:=by simpa using hl.symm
  have:=hx a (by simp);have:=hx b (by simp);exact ⟨(a*4+b).toNat,by rw [szA2];omega,by simp [dig];omega⟩
 | [a,b,c],hl,hx =>
  obtain rfl:p=3:=by simpa using hl.symm
  have:=hx a (by simp);have:=hx b (by simp);have:=hx c (by simp);exact ⟨(a*16+b*4+c).toNat,by rw [szA3];omega,by simp [dig];omega⟩
 |a :: b :: c :: d :: l,hl,_=>simp at hl;omega
theorem WV {l l':List Int} (h:l.length=l'.length) (h3:l.length≤3) (e:pad l=pad l'):l=l':=by
 have e1:=uW h3 l.length (qB _);have e2:=uW (l:=l') (by omega) l'.length (qB _);rw [jC] at e1 e2;rw [←e1,←e2,e,h]
theorem Qm {ns:Nat} {k:Kd} (h:okKd ns k) (hns:ns≤4) {t:Tp} (ht:t∈k.ts):∃ i,i<szA k.ar∧t=pad (dig k.ar i):=by
 obtain ⟨l,rfl,hl,hx⟩:=h.ts t ht;obtain ⟨i,hi,e⟩:=gh h.ar hl fun x hm=>by have:=hx x hm;omega
 exact ⟨i,hi,by rw [e]⟩
def qA (k:Kd):RS:=(k.ar,fun j=>decide (j<szA k.ar∧pad (dig k.ar j)∈k.ts))
theorem yw (k:Kd) (j:Nat):(qA k).2 j=true↔j<szA k.ar∧pad (dig k.ar j)∈k.ts:=decide_eq_true_iff
theorem uZ {a b:RS} (h1:a.1=b.1) (h2:∀ j,j<64→a.2 j=b.2 j):eRS a=eRS b:=by
 simp only [eRS,cRS,h1,uh h2]
theorem YY {a b:Kd} (h:a.ar=b.ar):eRS (uniS (qA a) (qA b))=eRS (qA (kSum a b)):=by
 refine uZ rfl fun j hj=>?_
 rw [Bool.eq_iff_iff,yw];show ((qA a).2 j||(qA b).2 j)=true↔j<szA a.ar∧pad (dig a.ar j)∈uni (uni [] a.ts) b.ts;rw [Bool.or_eq_true,yw,yw,←h,vr,vr];constructor
 ·rintro (⟨h1,h2⟩ | ⟨h1,h2⟩)
  ·exact ⟨h1,.inl (.inr h2)⟩
  ·exact ⟨h1,.inr h2⟩
 ·rintro ⟨h1,(h2 | h2) | h2⟩
  ·cases h2
  ·exact .inl ⟨h1,h2⟩
  ·exact .inr ⟨h1,h2⟩
theorem qf3 {a b:Kd} (h:a.ar=b.ar):eRS (intS (qA a) (qA b))=eRS (qA (UT a b)):=by
 refine uZ rfl fun j hj=>?_
 rw [Bool.eq_iff_iff,yw];show ((qA a).2 j&&(qA b).2 j)=true↔j<szA a.ar∧pad (dig a.ar j)∈a.ts.filter fun t=>decide (t∈b.ts)
 rw [Bool.and_eq_true,yw,yw,←h,List.mem_filter,decide_eq_true_eq];constructor
 ·rintro ⟨⟨h1,h2⟩,_,h3⟩;exact ⟨h1,h2,h3⟩
 ·rintro ⟨h1,h2,h3⟩;exact ⟨⟨h1,h2⟩,h1,h3⟩
theorem J7 {n m:Nat} {a b:List Tp} {t:Tp}:t∈wT n m a b↔∃ x y,x∈a∧y∈b∧conc x n y m 0=t:=by
 unfold wT;rw [vr];simp only [zb,false_or,qE,Prod.exists,Zk];constructor
 ·rintro ⟨x,y,⟨h1,h2⟩,h3⟩;exact ⟨x,y,h1,h2,h3⟩
 ·rintro ⟨x,y,h1,h2,h3⟩;exact ⟨x,y,⟨h1,h2⟩,h3⟩
theorem Yr {l l':List Int} {n m:Nat} (h:l.length=n) (h':l'.length=m) (hn:n≤3) (hm:m≤3):conc (pad l) n (pad l') m 0=pad (l++l'):=by
 unfold conc;rw [Nat.sub_zero,List.drop_zero,uW (by omega) n (by omega),uW (by omega) m (by omega),←h,←h',jC,jC]
theorem qf4 {ns:Nat} {a b:Kd} (ha:okKd ns a) (hb:okKd ns b) (hns:ns≤4) (h3:a.ar+b.ar≤3):eRS (WQ (qA a) (qA b))=eRS (qA (wU a b)):=by
 have har:=ha.ar;have hbr:=hb.ar;have la:=fun i=>ui (k:=a.ar) (by omega) i
 have lb:=fun i=>ui (k:=b.ar) (by omega) i
 have lab:=fun i=>ui (k:=a.ar+b.ar) (by omega) i
 refine uZ rfl fun j hj=>?_
 rw [Bool.eq_iff_iff,yw];show (decide (j<szA a.ar*szA b.ar)&&((qA a).2 (j / szA b.ar)&&(qA b).2 (j % szA b.ar)))=true↔j<szA (a.ar+b.ar)∧pad (dig (a.ar+b.ar) j)∈wT a.ar.toNat b.ar.toNat a.ts b.ts;rw [Bool.and_eq_true,Bool.and_eq_true,yw,yw,J7,decide_eq_true_eq];constructor
 ·rintro ⟨_,⟨h1,h2⟩,h4,h5⟩
  have hm:=WT (p:=a.ar) (q:=b.ar) (by omega) (by omega) h3 h1 h4;have hd:j / szA b.ar*szA b.ar+j % szA b.ar=j:=Nat.div_add_mod' j _;rw [hd] at hm;refine ⟨hm.1,_,_,h2,h5,?_⟩;rw [hm.2];exact Yr (by have:=la (j / szA b.ar);omega) (by have:=lb (j % szA b.ar);omega) (by omega) (by omega)
 ·rintro ⟨h1,x,y,hx,hy,e⟩
  obtain ⟨i,hi,rfl⟩:=Qm ha hns hx;obtain ⟨k,hk,rfl⟩:=Qm hb hns hy;rw [Yr (by have:=la i;omega) (by have:=lb k;omega) (by omega) (by omega)] at e;have hm:=WT (p:=a.ar) (q:=b.ar) (by omega) (by omega) h3 hi hk;rw [←hm.2] at e;have e2:=WV (by have:=lab (i*szA b.ar+k);have:=lab j;omega) (by have:=lab (i*szA b.ar+k);omega) e;have e3:=WU (by omega) hm.1 h1 e2;have hsb:=ZG b.ar;have d1:j / szA b.ar=i:=by rw [←e3,Nat.add_comm,Nat.add_mul_div_right _ _ (by omega),Nat.div_eq_of_lt hk,Nat.zero_add]
  have d2:j % szA b.ar=k:=by rw [←e3,Nat.add_comm,Nat.add_mul_mod_self_right,Nat.mod_eq_of_lt hk]
  rw [d1,d2];refine ⟨?_,⟨hi,hx⟩,hk,hy⟩;rw [←e3]
  calc i*szA b.ar+k<i*szA b.ar+szA b.ar:=by omega
   _=(i+1)*szA b.ar:=by rw [Nat.add_mul,Nat.one_mul]
   _≤szA a.ar*szA b.ar:=Nat.mul_le_mul_right _ hi
theorem uU {n m:Nat} {a b:List Tp} {t:Tp}:t∈v6 n m a b↔∃ x y,x∈a∧y∈b∧x.getD (n-1) 0=y.getD 0 0∧conc x n y m 1=t:=by
 unfold v6;rw [vr];simp only [zb,false_or,List.mem_filterMap,Prod.exists,Zk];constructor
 ·rintro ⟨x,y,⟨h1,h2⟩,h3⟩
  split at h3
  ·rename_i h;cases h3;exact ⟨x,y,h1,h2,h,rfl⟩
  ·cases h3
 ·rintro ⟨x,y,h1,h2,h3,h4⟩;exact ⟨x,y,⟨h1,h2⟩,by rw [if_pos h3,h4]⟩
theorem qf5 {u v:List Int} {e f:Int} {n m:Nat} (h:u.length+1=n) (h':v.length+1=m) (hn:n≤3) (hm:m≤3):conc (pad (u++[e])) n (pad ([f]++v)) m 1=pad (u++v):=by
 unfold conc;rw [uW (by simp;omega) (n-1) (by simp;omega),uW (by simp;omega) m (by simp;omega),List.take_append_of_le_length (by omega),y5 (by omega),y5 (by simp;omega)];rfl
theorem gi {l:List Int} {k:Nat} (h:k<3):(pad l).getD k 0=l.getD k 0:=by
 match k,h with
 | 0,_=>rfl
 | 1,_=>rfl
 | 2,_=>rfl
theorem qf7 {p:Int} (hp:0≤p∧p≤2) {i:Nat} (hi:i<szA (p+1)):i / 4<szA p∧dig (p+1) i=dig p (i / 4)++[((i % 4:Nat):Int)]:=by
 have:=gg (p:=p) (q:=1) hp.1 (by omega) (by omega) hi;rw [szA1] at this;exact ⟨this.1,this.2.2⟩
theorem qf8 {q:Int} (hq:0≤q∧q≤2) {k:Nat} (hk:k<szA (1+q)):k % szA q<szA q∧dig (1+q) k=[((k / szA q:Nat):Int)]++dig q (k % szA q):=by
 have:=gg (p:=1) (q:=q) (by omega) hq.1 (by omega) hk;exact ⟨this.2.1,this.2.2⟩
theorem qf9 {q:Int} (hq:0≤q∧q≤2):szA (q+1) / 4=szA q∧szA (q+1)=4*szA q:=by
 rcases (show q=0∨q=1∨q=2 by omega) with rfl | rfl | rfl<;>exact ⟨rfl,rfl⟩
theorem gj {ns:Nat} {a b:Kd} (ha:okKd ns a) (hb:okKd ns b) (hns:ns≤4) (h3:1≤a.ar+b.ar-2∧a.ar+b.ar-2≤3):eRS (Ql (qA a) (qA b))=eRS (qA (zO a b)):=by
 have har:=ha.ar;have hbr:=hb.ar;obtain ⟨p,hp⟩:∃ p,p=a.ar-1:=⟨_,rfl⟩;obtain ⟨q,hq⟩:∃ q,q=b.ar-1:=⟨_,rfl⟩;have ea:a.ar=p+1:=by omega
 have eb:b.ar=1+q:=by omega
 have eb':b.ar=q+1:=by omega
 have eab:a.ar+b.ar-2=p+q:=by omega
 have hst:=qf9 (q:=q) (by omega);have hn:szA b.ar / 4=szA q:=by rw [eb'];exact hst.1
 have lp:=fun i=>ui (k:=p) (by omega) i
 have lq:=fun i=>ui (k:=q) (by omega) i
 have lpq:=fun i=>ui (k:=p+q) (by omega) i
 have A:∀ i,i<szA a.ar→i / 4<szA p∧dig a.ar i=dig p (i / 4)++[((i % 4:Nat):Int)]:=fun i hi=>by rw [ea] at hi ⊢;exact qf7 (by omega) hi
 have B:∀ k,k<szA b.ar→k % szA q<szA q∧dig b.ar k=[((k / szA q:Nat):Int)]++dig q (k % szA q):=fun k hk=>by rw [eb] at hk ⊢;exact qf8 (by omega) hk
 have J:∀ i k,i<szA a.ar→k<szA b.ar→i / 4*szA q+k % szA q<szA (p+q)∧(pad (dig a.ar i)).getD (a.ar.toNat-1) 0=((i % 4:Nat):Int)∧(pad (dig b.ar k)).getD 0 0=((k / szA q:Nat):Int)∧conc (pad (dig a.ar i)) a.ar.toNat (pad (dig b.ar k)) b.ar.toNat 1=pad (dig (p+q) (i / 4*szA q+k % szA q)):=fun i k hi hk=>by
  obtain ⟨a1,a2⟩:=A i hi;obtain ⟨b1,b2⟩:=B k hk;have hm:=WT (p:=p) (q:=q) (by omega) (by omega) (by omega) a1 b1;have l1:=lp (i / 4);have l2:=lq (k % szA q);refine ⟨hm.1,?_,?_,?_⟩
  ·rw [gi (by omega),a2,show a.ar.toNat-1=(dig p (i / 4)).length by omega];simp
  ·rw [gi (by omega),b2];rfl
  ·rw [a2,b2,hm.2];exact qf5 (by omega) (by omega) (by omega) (by omega)
 refine uZ rfl fun j hj=>?_
 rw [Bool.eq_iff_iff,yw];show ((List.range (szA a.ar)).any fun i=>(List.range (szA b.ar)).any fun k=>decide (i / 4*(szA b.ar / 4)+k % (szA b.ar / 4)=j)&&(decide (i % 4=k / (szA b.ar / 4))&&((qA a).2 i&&(qA b).2 k)))=true↔j<szA (a.ar+b.ar-2)∧pad (dig (a.ar+b.ar-2) j)∈v6 a.ar.toNat b.ar.toNat a.ts b.ts;rw [uU,List.any_eq_true,hn,eab];constructor
 ·rintro ⟨i,hi,h⟩
  obtain ⟨k,hk,h⟩:=List.any_eq_true.1 h;rw [List.mem_range] at hi hk;rw [Bool.and_eq_true,Bool.and_eq_true,Bool.and_eq_true,decide_eq_true_eq,decide_eq_true_eq,yw,yw] at h;obtain ⟨rfl,h2,⟨_,h4⟩,_,h5⟩:=h;obtain ⟨j1,j2,j3,j4⟩:=J i k hi hk;exact ⟨j1,_,_,h4,h5,by rw [j2,j3,h2],j4⟩
 ·rintro ⟨h1,x,y,hx,hy,h2,e⟩
  obtain ⟨i,hi,rfl⟩:=Qm ha hns hx;obtain ⟨k,hk,rfl⟩:=Qm hb hns hy;obtain ⟨j1,j2,j3,j4⟩:=J i k hi hk;rw [j4] at e;have e2:=WV (by have:=lpq (i / 4*szA q+k % szA q);have:=lpq j;omega) (by have:=lpq (i / 4*szA q+k % szA q);omega) e;have e3:=WU (by omega) j1 h1 e2;rw [j2,j3] at h2;refine ⟨i,List.mem_range.2 hi,List.any_eq_true.2 ⟨k,List.mem_range.2 hk,?_⟩⟩;rw [Bool.and_eq_true,Bool.and_eq_true,Bool.and_eq_true,decide_eq_true_eq,decide_eq_true_eq,yw,yw];exact ⟨e3,by omega,⟨hi,hx⟩,hk,hy⟩
theorem qgA {ns:Nat} {a:Kd} (ha:okKd ns a) (hns:ns≤4) (h2:a.ar=2):eRS (trS (qA a))=eRS (qA (kTr a)):=by
 refine uZ rfl fun j hj=>?_
 rw [Bool.eq_iff_iff,yw];show (decide (j<16)&&(qA a).2 (j % 4*4+j / 4))=true↔j<16∧pad (dig 2 j)∈uni [] (a.ts.map fun t=>[t.getD 1 0,t.getD 0 0,0]);rw [Bool.and_eq_true,yw,vr,decide_eq_true_eq,h2,szA2];simp only [zb,false_or,qE];constructor
 ·rintro ⟨h1,h3,h4⟩
  refine ⟨h1,_,h4,?_⟩;simp [dig,pad];omega
 ·rintro ⟨h1,t,ht,e⟩
  obtain ⟨i,hi,rfl⟩:=Qm ha hns ht;rw [h2,szA2] at hi;rw [h2] at e ht;simp [dig,pad] at e;have:j % 4*4+j / 4=i:=by omega
  rw [this];exact ⟨h1,hi,ht⟩
theorem WW {l:List Int} (h:1≤l.length∧l.length≤3) (hx:∀ x,x∈l→0≤x∧x<4):eRS (oneS l)=eRS (qA (kOf l)):=by
 refine uZ rfl fun j hj=>?_
 obtain ⟨i,hi,e⟩:=gh (p:=(l.length:Int)) (by omega) rfl hx;have hat:atF 0 l=i:=by
  match l,h,hx,hi,e with
  | [x],_,hx,hi,e =>
   have:=hx x (by simp);simp [dig] at e;simp [atF,IntKind.wrap,IntKind.signed,IntKind.bits];omega
  | [x,y],_,hx,hi,e =>
   have:=hx x (by simp);have:=hx y (by simp);simp [dig] at e;simp [atF,IntKind.wrap,IntKind.signed,IntKind.bits];omega
  | [x,y,z],_,hx,hi,e =>
   have:=hx x (by simp);have:=hx y (by simp);have:=hx z (by simp);simp [dig] at e;simp [atF,IntKind.wrap,IntKind.signed,IntKind.bits];omega
 rw [Bool.eq_iff_iff,yw];show decide ((j:Int)=atF 0 l)=true↔j<szA (l.length:Int)∧pad (dig (l.length:Int) j)∈[pad l];rw [decide_eq_true_eq,hat,zj];have ld:=fun j=>ui (k:=(l.length:Int)) (by omega) j
 constructor
 ·intro h1
  obtain rfl:j=i:=by omega
  exact ⟨hi,by rw [←e]⟩
 ·rintro ⟨h1,h2⟩
  have e2:=WV (by have:=ld j;omega) (by have:=ld j;omega) h2;rw [e] at e2;have:=WU (p:=(l.length:Int)) (by omega) h1 hi (by rw [←e] at e2 ⊢;exact e2);omega
end Go.Proofs.YtcfopdccdeeleaaGreatDoor.QF


namespace Go.Proofs.YtcfopdccdeeleaaGreatDoor.QG
open Go Go.Ev Go.Proofs Go.Proofs.YtcfopdccdeeleaaGreatDoor Y1 Y2 Y3 P1 P2 PA PB QD QE QF
def Ja (k:Kd):Kd:=kSum k (zO k k)
def itK:Nat→Kd→Kd
 | 0,k=>k
 |i+1,k=>Ja (itK i k)
theorem qgC {ns:Nat} {k:Kd} (h:okKd ns k) (h2:k.ar=2):okKd ns (Ja k)∧(Ja k).ar=2:=
 ⟨Yq h (Ys h h (by omega) (by omega)) (by simp only [zO];omega),h2⟩
theorem okIt {ns:Nat} {k:Kd} (h:okKd ns k) (h2:k.ar=2):∀ i,okKd ns (itK i k)∧(itK i k).ar=2
 | 0=>⟨h,h2⟩
 |i+1=>qgC (okIt h h2 i).1 (okIt h h2 i).2
abbrev Ed (k:Kd) (u v:Int):Prop:=[u,v,0]∈k.ts
theorem VA {ns:Nat} {k:Kd} (h:okKd ns k) (h2:k.ar=2) {t:Tp} (ht:t∈k.ts):∃ u v,t=[u,v,0]∧(0≤u∧u<ns)∧(0≤v∧v<ns):=by
 obtain ⟨l,rfl,hl,hx⟩:=h.ts t ht
 match l,hl,hx with
 | [u,v],_,hx=>exact ⟨u,v,rfl,hx u (by simp),hx v (by simp)⟩
 | [],hl,_=>simp at hl;omega
 | [_],hl,_=>simp at hl;omega
 |_ :: _ :: _ :: _,hl,_=>simp at hl;omega
theorem gk {ns:Nat} {k:Kd} (h:okKd ns k) (h2:k.ar=2) {u v:Int}:[u,v,0]∈(zO k k).ts↔∃ w,Ed k u w∧Ed k w v:=by
 show [u,v,0]∈v6 k.ar.toNat k.ar.toNat k.ts k.ts↔_;rw [QF.uU,h2];constructor
 ·rintro ⟨x,y,hx,hy,h3,h4⟩
  obtain ⟨a,b,rfl,_,_⟩:=VA h h2 hx;obtain ⟨c,d,rfl,_,_⟩:=VA h h2 hy;have h3:b=c:=h3;have h4:[a,d,0]=[u,v,0]:=h4;injection h4 with e1 e2;injection e2 with e2 _;subst e1 e2 h3;exact ⟨b,hx,hy⟩
 ·rintro ⟨w,h3,h4⟩
  exact ⟨[u,w,0],[w,v,0],h3,h4,rfl,rfl⟩
theorem WX {ns:Nat} {k:Kd} (h:okKd ns k) (h2:k.ar=2) {u v:Int}:Ed (Ja k) u v↔Ed k u v∨∃ w,Ed k u w∧Ed k w v:=by
 unfold Ed Ja;rw [ZH,gk h h2]
def Path (k:Kd) (n:Nat) (u v:Int):Prop:=∃ f:Nat→Int,f 0=u∧f n=v∧∀ i,i<n→Ed k (f i) (f (i+1))
theorem Path.one {k:Kd} {u v:Int} (h:Ed k u v):Path k 1 u v:=⟨fun i=>if i=0 then u else v,rfl,rfl,fun i hi=>by
 obtain rfl:i=0:=by omega
 exact h⟩
theorem Path.comp {k:Kd} {n m:Nat} {u w v:Int} (h:Path k n u w) (h':Path k m w v):Path k (n+m) u v:=by
 obtain ⟨f,f0,fn,hf⟩:=h;obtain ⟨g,g0,gm,hg⟩:=h';refine ⟨fun i=>if i<n then f i else g (i-n),?_,?_,fun i hi=>?_⟩
 ·by_cases h0:0<n
  ·simp [h0,f0]
  ·have:n=0:=by omega
   subst this;simp [g0,←fn,f0]
 ·simp only [if_neg (show ¬n+m<n by omega),Nat.add_sub_cancel_left,gm]
 ·by_cases h1:i+1<n
  ·simp only [if_pos h1,if_pos (show i<n by omega)];exact hf i (by omega)
  ·by_cases h2:i<n
   ·have e:i+1=n:=by omega
    simp only [if_neg h1,if_pos h2];have:=hf i h2;rw [e,fn] at this;rw [show i+1-n=0 by omega,g0];exact this
   ·simp only [if_neg h1,if_neg h2,show i+1-n=(i-n)+1 by omega]
    exact hg (i-n) (by omega)
theorem Path.short {ns:Nat} {k:Kd} (h:okKd ns k) (h2:k.ar=2) (hns:ns≤4):∀(N n:Nat) (u v:Int),n≤N→1≤n→Path k n u v→∃ m,1≤m∧m≤4∧Path k m u v
 | 0,n,u,v,hN,h1,_=>by omega
 | N+1,n,u,v,hN,h1,hp=>by
  by_cases h4:n≤4
  ·exact ⟨n,h1,h4,hp⟩
  obtain ⟨f,f0,fn,hf⟩:=hp;have hr:∀ i,i<5→0≤f i∧f i<4:=fun i hi=>by
   obtain ⟨a,b,e,ha,hb⟩:=VA h h2 (hf i (by omega));injection e with e1 _;omega
  obtain ⟨i,j,hij,hj,e⟩:∃ i j,i<j∧j<5∧f i=f j:=by
   apply Classical.byContradiction;intro hno;have hnd:((List.range 5).map f).Nodup:=List.pairwise_map.2 (List.pairwise_lt_range.imp_of_mem fun {a b} ha hb hab e=>hno ⟨a,b,hab,List.mem_range.1 hb,e⟩);have:=List.Nodup.length_le_of_subset hnd (l₂:=[0,1,2,3]) fun x hx=>by
    obtain ⟨i,hi,rfl⟩:=qE.1 hx;have:=hr i (List.mem_range.1 hi);simp;omega
   simp at this
  refine Path.short h h2 hns N (n-(j-i)) u v (by omega) (by omega) ⟨fun x=>if x<i then f x else f (x+(j-i)),?_,?_,fun x hx=>?_⟩
  ·by_cases h0:0<i
   ·simp [h0,f0]
   ·have:i=0:=by omega
    subst this;simp [←e,f0]
  ·simp only [if_neg (show ¬n-(j-i)<i by omega),show n-(j-i)+(j-i)=n by omega,fn]
  ·by_cases h3:x+1<i
   ·simp only [if_pos h3,if_pos (show x<i by omega)];exact hf x (by omega)
   ·by_cases h5:x<i
    ·have e1:x+1=i:=by omega
     simp only [if_neg h3,if_pos h5];rw [show x+1+(j-i)=j by omega,←e,←e1];exact hf x (by omega)
    ·simp only [if_neg h3,if_neg h5,show x+1+(j-i)=(x+(j-i))+1 by omega]
     exact hf _ (by omega)
theorem Jb {ns:Nat} {k:Kd} (h:okKd ns k) (h2:k.ar=2):∀(i:Nat) (u v:Int),Ed (itK i k) u v→∃ n,1≤n∧Path k n u v
 | 0,u,v,he=>⟨1,by omega,.one he⟩
 |i+1,u,v,he=>by
  rcases (WX (okIt h h2 i).1 (okIt h h2 i).2).1 he with he | ⟨w,h3,h4⟩
  ·exact Jb h h2 i u v he
  ·obtain ⟨n,n1,p⟩:=Jb h h2 i u w h3
   obtain ⟨m,m1,q⟩:=Jb h h2 i w v h4;exact ⟨n+m,by omega,p.comp q⟩
theorem ZI {k:Kd} (i:Nat):Sub (itK i k) (itK (i+1) k):=WS _ _
theorem qgD {ns:Nat} {k:Kd} (h:okKd ns k) (h2:k.ar=2) {m:Nat} {u v:Int} (h1:1≤m) (h4:m≤4) (hp:Path k m u v):Ed (itK 4 k) u v:=by
 obtain ⟨f,rfl,rfl,hf⟩:=hp;have up:∀{u v},Ed (itK 2 k) u v→Ed (itK 4 k) u v:=fun he=>(ZI 3).2 _ ((ZI 2).2 _ he)
 have s1:∀{u w v},Ed (itK 0 k) u w→Ed (itK 0 k) w v→Ed (itK 1 k) u v:=fun a b=>(WX (okIt h h2 0).1 (okIt h h2 0).2).2 (.inr ⟨_,a,b⟩)
 have s2:∀{u w v},Ed (itK 1 k) u w→Ed (itK 1 k) w v→Ed (itK 2 k) u v:=fun a b=>(WX (okIt h h2 1).1 (okIt h h2 1).2).2 (.inr ⟨_,a,b⟩)
 have l1:∀{u v},Ed (itK 0 k) u v→Ed (itK 1 k) u v:=fun he=>(ZI 0).2 _ he
 refine up ?_;rcases (show m=1∨m=2∨m=3∨m=4 by omega) with rfl | rfl | rfl | rfl
 ·exact (ZI 1).2 _ (l1 (hf 0 (by omega)))
 ·exact (ZI 1).2 _ (s1 (hf 0 (by omega)) (hf 1 (by omega)))
 ·exact s2 (s1 (hf 0 (by omega)) (hf 1 (by omega))) (l1 (hf 2 (by omega)))
 ·exact s2 (s1 (hf 0 (by omega)) (hf 1 (by omega))) (s1 (hf 2 (by omega)) (hf 3 (by omega)))
theorem qgE {ns:Nat} {k:Kd} (h:okKd ns k) (h2:k.ar=2) (hns:ns≤4):Vy (itK 4 k):=fun t ht=>by
 have ok:=okIt h h2 4;have okj:=Ys ok.1 ok.1 (by rw [ok.2];omega) (by rw [ok.2];omega);obtain ⟨u,v,rfl,_,_⟩:=VA okj (by simp only [zO];rw [ok.2];rfl) ht;obtain ⟨w,h3,h4⟩:=(gk ok.1 ok.2).1 ht;obtain ⟨n,n1,p⟩:=Jb h h2 4 u w h3;obtain ⟨m,m1,q⟩:=Jb h h2 4 w v h4;obtain ⟨c,c1,c4,hc⟩:=Path.short h h2 hns (n+m) (n+m) u v (qB _) (by omega) (p.comp q);exact qgD h h2 c1 c4 hc
theorem Jc {S:Kd} (hS:Vy S) {k:Kd} (h:Sub k S):∀ i,Sub (itK i k) S
 | 0=>h
 |i+1=>⟨(Jc hS h i).1,fun t ht=>by
  rcases ZH.1 ht with ht | ht
  ·exact (Jc hS h i).2 t ht
  ·exact hS t ((WR (Jc hS h i) (Jc hS h i)).2 t ht)⟩
theorem gl {k:Kd}:∀ i,Sub k (itK i k)
 | 0 => .refl k
 |i+1=>(gl i).trans (ZI i)
theorem qgF {ns:Nat} {k:Kd} (h:okKd ns k) (h2:k.ar=2) (hns:ns≤4):eRS (qA (itK 4 k))=eRS (qA (kClo k)):=by
 have a1:Sub (kClo k) (itK 4 k):=gb (qgE h h2 hns) 70 0 k (gl 4);have a2:Sub (itK 4 k) (kClo k):=Jc (ge hns 70 0 k h h2 (by omega) (.inl rfl)) (ga 70 0 k) 4;refine uZ a2.1 fun j hj=>?_
 rw [Bool.eq_iff_iff,yw,yw,a2.1];exact ⟨fun x=>⟨x.1,a2.2 _ x.2⟩,fun x=>⟨x.1,a1.2 _ x.2⟩⟩
end Go.Proofs.YtcfopdccdeeleaaGreatDoor.QG


namespace Go.Proofs.YtcfopdccdeeleaaGreatDoor.QH
open Go Go.Ev Go.Proofs Go.Proofs.YtcfopdccdeeleaaGreatDoor YM YF Y9 Y10 Y1 Y2 Y3 P1 P2 PA PB QD QE QF QG
theorem J8 {ns:Nat} {a:Kd} (h:okKd ns a) (h2:a.ar=2) (hns:ns≤4):qt Tryz.prog 153 [eRS (qA a)] (eRS (qA (kClo a))):=by
 refine qSQ Tryz.call153 Tryz.func153 rfl { mt:=[1] } ?_;rw [←qgF h h2 hns];simp [go_sem,qm];refine ⟨qV _,?_⟩;refine qD.upK 4 (fun i st=>st.tm 1 = .ptr 0 0∧st.tm 2 = .ptr 1 0∧st.tm 3=aI i∧st.mu=[.arr (cRS (qA (itK i a))),.arr (aI 0 :: hB fun _=>false)]) ?_ ?_
 ·exact ⟨by simp [go_sem],by simp [go_sem],by simp [go_sem],by simp [go_sem];exact ⟨⟨rfl,rfl⟩,rfl⟩⟩
 rintro i st hi ⟨e1,e2,e3,hm⟩;by_cases hlt:i<4
 ·have hlt':(i:Int)<4:=by omega
  have w1:IntKind.i64.wrap ((i:Int)+1)=(i:Int)+1:=qy (by omega) (by omega);obtain ⟨ok,o2⟩:=okIt h h2 i;have cj:qt Tryz.prog 150 [eRS (qA (itK i a)),eRS (qA (itK i a))] (eRS (qA (zO (itK i a) (itK i a)))):=by
   rw [←gj ok ok hns (by omega)];exact wX _ _ (by show 0≤(itK i a).ar∧(itK i a).ar≤1000;omega) (by show 1≤(itK i a).ar∧(itK i a).ar≤1000;omega)
  have cu:qt Tryz.prog 148 [eRS (qA (itK i a)),eRS (qA (zO (itK i a) (itK i a)))] (eRS (qA (itK (i+1) a))):=by
   have:=uX (qA (itK i a)) (qA (zO (itK i a) (itK i a)));rw [YY (by simp only [zO];omega)] at this;exact this
  generalize hs':qA (itK (i+1) a)=s' at *
  generalize qA (zO (itK i a) (itK i a))=q at *
  generalize qA (itK i a)=s at *
  simp [go_sem,e1,e2,e3,hm,hlt'];refine qx.intro (by kernel_rfl) ?_;simp [go_sem,e1,e2,e3,hm,qm,tk];refine qc.pure cj (.cons (.hf (yp _)) (.cons (.hf (yp _)) .nil)) ?_;simp [go_sem,e1,e2,e3,hm,qm,tk];refine qc.pure cu (.cons (.hf (yp _)) (.cons (.hf (yp _)) .nil)) ?_;simp [go_sem,e1,e2,e3,hm,qm,tk,pc];rw [if_pos (qV _)];simp [go_sem,e1,e2,e3,hm,qm,tk,pc,w1];exact ⟨hlt,Keep.mk' ⟨by simp [go_sem,e1],by simp [go_sem,e2],by simp [go_sem],by simp [go_sem,hs']⟩⟩
 ·have hie:i=4:=by omega
  subst hie;generalize qA (itK 4 a)=s at *
  simp [go_sem,e1,e2,e3,hm,qm,tk,pc];rw [if_pos (qV _)];simp [go_sem,e1,e2,e3,hm,qm,tk,pc];exact .hf _ (yp s)
theorem qgG (i k:Nat) (hk:k=1∨k=2):eRS (qA (kSum (zH i k) (kOf (List.replicate k (i:Int)))))=eRS (qA (zH (i+1) k)):=by
 refine uZ rfl fun j hj=>?_
 rw [Bool.eq_iff_iff,yw,yw];show j<szA (k:Int)∧pad (dig (k:Int) j)∈(kSum (zH i k) (kOf (List.replicate k (i:Int)))).ts↔j<szA (k:Int)∧pad (dig (k:Int) j)∈(List.range (i+1)).map fun (x:Nat)=>pad (List.replicate k (x:Int))
 rw [ZH,List.range_succ,List.map_append,zh];rfl
theorem qgH (k:Nat):hB (qA (zH 0 k)).2=hB fun _=>false:=uh fun j _=>decide_eq_false fun h=>absurd h.2 zb
theorem allU (ts:TS) (h:okTS ts) (k:Nat) (hk:k=1∨k=2):qt Tryz.prog 147 [eTS ts,aI k] (eRS (qA (zH ts.sorts.length k))):=by
 refine qSQ Tryz.call147 Tryz.func147 rfl {} ?_;have hns:=h.ns;have hz:=qgH k;simp [go_sem,qm];refine qD.upK ts.sorts.length (fun i st=>st.tm 1=aI k∧st.tm 2 = .ip (cTS ts)∧st.tm 4 = .ptr 0 0∧st.tm 5 = .ptr 1 0∧st.tm 6=aI i∧st.mu=[.arr (aI 0 :: hB fun _=>false),.arr (cRS (qA (zH i k)))]) ?_ ?_
 ·exact ⟨by simp [go_sem],by simp [go_sem],by simp [go_sem],by simp [go_sem],by simp [go_sem],by
   have e:cRS (qA (zH 0 k))=aI k :: hB fun _=>false:=by simp only [cRS,hz];rfl
   rw [e];simp [go_sem];first | rfl | exact ⟨rfl,rfl⟩⟩
 rintro i st hi ⟨e1,e2,e4,e5,e6,hm⟩;by_cases hlt:i<ts.sorts.length
 ·have w1:IntKind.i64.wrap ((i:Int)+1)=(i:Int)+1:=qy (by omega) (by omega)
  have c1:∀ l:List Int,l=List.replicate k (i:Int)→qt Tryz.prog 76 [lI l] (eRS (qA (kOf l))):=fun l hl=>by
   have hlen:l.length=k:=by rw [hl,List.length_replicate]
   have:=oneU l (by omega);rw [WP] at this;rw [←QF.WW (l:=l) (by omega) (fun x hx=>by rw [hl] at hx;rw [List.eq_of_mem_replicate hx];omega)];exact this
  have cu:∀ l:List Int,l=List.replicate k (i:Int)→qt Tryz.prog 148 [eRS (qA (zH i k)),eRS (qA (kOf l))] (eRS (qA (zH (i+1) k))):=fun l hl=>by
   have:=uX (qA (zH i k)) (qA (kOf l));rw [YY (by show (k:Int)=l.length;rw [hl,List.length_replicate]),hl,qgG i k hk] at this;rw [hl];exact this
  generalize hs':qA (zH (i+1) k)=s' at *
  generalize qA (zH i k)=s at *
  rcases hk with rfl | rfl
  ·have d1:=c1 [(i:Int)] rfl
   have d2:=cu [(i:Int)] rfl;generalize qA (kOf [(i:Int)])=q at *
   simp [go_sem,e1,e2,e4,e5,e6,hm,hlt];refine qx.intro (by kernel_rfl) ?_;simp [go_sem,e1,e2,e4,e5,e6,hm,qm,tk];refine qc.pure d1 (.cons (QD.wk1 _) .nil) ?_;simp [go_sem,e1,e2,e4,e5,e6,hm,qm,tk];refine qc.pure d2 (.cons (.hf (yp _)) (.cons (.hf (yp _)) .nil)) ?_;simp [go_sem,e1,e2,e4,e5,e6,hm,qm,tk,pc];rw [if_pos (qV _)];simp [go_sem,e1,e2,e4,e5,e6,hm,qm,tk,pc,w1];exact ⟨hlt,Keep.mk' ⟨by simp [go_sem,e1],by simp [go_sem,e2],by simp [go_sem,e4],by simp [go_sem,e5],by simp [go_sem],by simp [go_sem,hs']⟩⟩
  ·have d1:=c1 [(i:Int),(i:Int)] rfl
   have d2:=cu [(i:Int),(i:Int)] rfl;generalize qA (kOf [(i:Int),(i:Int)])=q at *
   simp [go_sem,e1,e2,e4,e5,e6,hm,hlt];refine qx.intro (by kernel_rfl) ?_;simp [go_sem,e1,e2,e4,e5,e6,hm,qm,tk];refine qc.pure d1 (.cons (QD.wk2 _ _) .nil) ?_;simp [go_sem,e1,e2,e4,e5,e6,hm,qm,tk];refine qc.pure d2 (.cons (.hf (yp _)) (.cons (.hf (yp _)) .nil)) ?_;simp [go_sem,e1,e2,e4,e5,e6,hm,qm,tk,pc];rw [if_pos (qV _)];simp [go_sem,e1,e2,e4,e5,e6,hm,qm,tk,pc,w1];exact ⟨hlt,Keep.mk' ⟨by simp [go_sem,e1],by simp [go_sem,e2],by simp [go_sem,e4],by simp [go_sem,e5],by simp [go_sem],by simp [go_sem,hs']⟩⟩
 ·have hie:i=ts.sorts.length:=by omega
  subst hie;generalize qA (zH ts.sorts.length k)=s at *
  simp [go_sem,e1,e2,e4,e5,e6,hm,qm,tk,pc];rw [if_pos (qV _)];simp [go_sem,e1,e2,e4,e5,e6,hm,qm,tk,pc];exact .hf _ (yp s)
end Go.Proofs.YtcfopdccdeeleaaGreatDoor.QH


namespace Go.Proofs.YtcfopdccdeeleaaGreatDoor.QI
open Go Go.Ev Go.Proofs Go.Proofs.YtcfopdccdeeleaaGreatDoor YM YF Y9 Y10 Y1 Y2 Y3 P1 P2 PA PB QD QE QF QG QH
theorem qgT {c:Ck} {nm:ByteArray} {k:Nat} (hk:k<c.calls) (hp:k<c.ts.preds.length) (h:c.ts.preds[k].name=nm) (hb:∀(j:Nat) (hj:j<c.ts.preds.length),j<k→c.ts.preds[j].name≠nm):zJ c nm=some k:=by
 unfold zJ;rw [List.findIdx?_eq_some_iff_getElem];refine ⟨by simp;omega,by simp [h],fun j hj=>?_⟩;simp [hb j (by omega) hj]
theorem qgU {c:Ck} {nm:ByteArray} (hb:∀(j:Nat) (hj:j<c.ts.preds.length),j<c.calls→c.ts.preds[j].name≠nm):zJ c nm=none:=by
 unfold zJ;rw [List.findIdx?_eq_none_iff];intro p hp;obtain ⟨j,hj,e⟩:=List.mem_iff_getElem.1 hp;simp at hj;rw [List.getElem_take] at e;rw [←e];exact decide_eq_false (hb j (by omega) (by omega))
abbrev idxO:Option Nat→Int
 |some i=>i
 |none => -1
theorem Je (c:Ck) (hc:okCk c) (nm:ByteArray):qt Tryz.prog 81 [eTS c.ts,aI c.calls,aS nm] (aI (idxO (zJ c nm))):=by
 refine qSQ Tryz.call81 Tryz.func81 rfl {} ?_;have hcl:=hc.calls;have hnp:=hc.ts.np;simp [go_sem];refine qD.upK c.calls (fun k st=>st.tm 1=aI c.calls∧st.tm 2=aS nm∧st.tm 3 = .ip (cTS c.ts)∧st.tm 7=aI k∧∀(j:Nat) (hj:j<c.ts.preds.length),j<k→c.ts.preds[j].name≠nm) ?_ ?_
 ·exact ⟨by simp [go_sem],by simp [go_sem],by simp [go_sem],by simp [go_sem],fun j hj h=>by omega⟩
 rintro k st hk ⟨e1,e2,e3,e7,hI⟩;by_cases hlt:k<c.calls
 ·have w1:IntKind.i64.wrap ((k:Int)+1)=(k:Int)+1:=qy (by omega) (by omega)
  have hkp:k<c.ts.preds.length:=by omega
  by_cases hq:c.ts.preds[k].name=nm
  ·rw [qgT hlt hkp hq hI]
   simp [go_sem,e1,e2,e3,e7,hlt,hkp,hq];exact .hf _ (HF.sc _)
  ·simp [go_sem,e1,e2,e3,e7,hlt,hkp,zL hq,w1]
   refine Keep.mk' ⟨by simp [go_sem,e1],by simp [go_sem,e2],by simp [go_sem,e3],by simp [go_sem],fun j hj hjk=>?_⟩;by_cases he:j=k
   ·subst he;exact hq
   ·exact hI j hj (by omega)
 ·have hke:k=c.calls:=by omega
  subst hke;rw [qgU hI];simp [go_sem,e1,e2,e3,e7];exact .hf _ (HF.sc _)
theorem vL (op:Int):qt Tryz.prog 92 [aI op] (aB (yn op)):=by
 refine qSQ Tryz.call92 Tryz.func92 rfl {} ?_;by_cases h5:op=5
 ·rw [show yn op=true by simp [yn,h5]]
  simp [go_sem,h5];exact .hf _ (HF.sc _)
 by_cases h48:48≤op
 ·by_cases h51:op≤51
  ·rw [show yn op=true by unfold yn;rcases (show op=48∨op=49∨op=50∨op=51 by omega) with h | h | h | h<;>simp [h]]
   simp [go_sem,h5,h48,h51];exact .hf _ (HF.sc _)
  ·rw [show yn op=false by simp [yn,h5,show ¬op=48 by omega,show ¬op=49 by omega,show ¬op=50 by omega,show ¬op=51 by omega]]
   simp [go_sem,h5,h48,h51];exact .hf _ (HF.sc _)
 ·rw [show yn op=false by simp [yn,h5,show ¬op=48 by omega,show ¬op=49 by omega,show ¬op=50 by omega,show ¬op=51 by omega]]
  simp [go_sem,h5,h48];exact .hf _ (HF.sc _)
abbrev rBo (b:Bool):List AV:=[aB b]
abbrev lBo (l:List Bool):AV := .lst false (l.map rBo)
theorem Jf (l:List Bool):HF (lBo l):=HF.lst fun r hr c hc=>by
 obtain ⟨b,_,rfl⟩:=qE.1 hr;rw [zj] at hc;subst hc;exact HF.sc _
def tpB (c:Ck) (nm:ByteArray):Bool:=match zJ c nm with | some p=>c.timed.getD p false | none=>false
theorem uj (c:Ck) (hc:okCk c) (nm:ByteArray):qt Tryz.prog 93 [eTS c.ts,lBo c.timed,aI c.calls,aS nm] (aB (tpB c nm)):=by
 generalize hr:tpB c nm=r;unfold tpB at hr;refine qSQ Tryz.call93 Tryz.func93 rfl {} ?_;simp [go_sem];refine qc.pure (Je c hc nm) (.cons (.hf (zq _)) (.cons (.hf (HF.sc _)) (.cons (.hf (HF.sc _)) .nil))) ?_;cases hcl:zJ c nm with
 |none =>
  rw [hcl] at hr;subst hr;simp [go_sem,idxO];exact .hf _ (HF.sc _)
 |some p =>
  rw [hcl] at hr;by_cases hp:p<c.timed.length
  ·have hr2:r=c.timed[p]:=by rw [←hr];simp [List.getD,hp]
   subst hr2;simp [go_sem,idxO,hp];exact .hf _ (HF.sc _)
  ·have hr2:r=false:=by rw [←hr];simp [List.getD,hp]
   subst hr2;simp [go_sem,idxO,hp];exact .hf _ (HF.sc _)
theorem gq (c:Ck) (hc:okCk c) (hl:c.timed.length=c.calls):∀(m:Nat) (n:Nd),szN n≤m→Small n→qt Tryz.prog 98 [eTS c.ts,lBo c.timed,eNd n] (aB (yJ c n))
 | 0,n,hm,_=>by obtain ⟨op,nm,i,ks,p⟩:=n;simp [szN] at hm
 |m+1,n,hm,hs=>by
  have ih:∀ k,k∈n.kids→qt Tryz.prog 98 [eTS c.ts,lBo c.timed,eNd k] (aB (yJ c k)):=fun k hk =>
   gq c hc hl m k (by have:=yu hk;omega) (hs.kid hk)
  have hlen:=hs.len;have hti:yO c n.op n.name=(yn n.op||(decide (n.op=47)&&tpB c n.name)):=rfl;rw [kc,hti];generalize hR:n.kids.any (yJ c)=R;have ct:=vL n.op;have cp:=uj c hc n.name;generalize yn n.op=T at *
  generalize tpB c n.name=B at *
  refine qSQ Tryz.call98 Tryz.func98 rfl {} ?_;simp [go_sem];refine qc.pure ct (.cons (.hf (HF.sc _)) .nil) ?_;cases T with
  |true =>
   simp [go_sem];exact .hf _ (HF.sc _)
  |false =>
  rw [Bool.false_or];by_cases h47:n.op=47
  ·rw [decide_eq_true h47,Bool.true_and]
   simp [go_sem,h47,hl];refine qc.pure cp (.cons (.hf (zq _)) (.cons (.hf (Jf _)) (.cons (.hf (HF.sc _)) (.cons (.hf (HF.sc _)) .nil)))) ?_;cases B with
   |true =>
    simp [go_sem];exact .hf _ (HF.sc _)
   |false =>
   rw [Bool.false_or];simp [go_sem];refine qD.upK n.kids.length (fun k st=>st.tm 1=lBo c.timed∧st.tm 3 = .ip (cTS c.ts)∧st.tm 5 = .ip (cNd n)∧st.tm 7=aI k∧(n.kids.drop k).any (yJ c)=R) ?_ ?_
   ·exact ⟨by simp [go_sem],by simp [go_sem],by simp [go_sem],by simp [go_sem],by simpa using hR⟩
   rintro k st hk ⟨e1,e3,e5,e7,hI⟩;by_cases hkl:k=n.kids.length
   ·subst hkl
    rw [List.drop_length] at hI;have hI:R=false:=by rw [←hI];rfl
    subst hI;simp [go_sem,e1,e3,e5,e7];exact .hf _ (HF.sc _)
   have hlt:k<n.kids.length:=by omega
   have w1:IntKind.i64.wrap ((k:Int)+1)=(k:Int)+1:=qy (by omega) (by omega);rw [zA hlt,List.any_cons] at hI;have hi:=ih n.kids[k] (qJ hlt);simp [go_sem,e1,e3,e5,e7,hlt,qr];refine qx.intro (by kernel_rfl) ?_;simp [go_sem,e1,e3,e5,e7,hlt,qr];refine qc.pure hi (.cons (.hf (zq _)) (.cons (.hf (Jf _)) (.cons (.hf (qO _)) .nil))) ?_;cases hq:yJ c n.kids[k] with
   |true =>
    rw [hq,Bool.true_or] at hI;subst hI;simp [go_sem,e1,e3,e5,e7,hlt];exact .hf _ (HF.sc _)
   |false =>
    rw [hq,Bool.false_or] at hI;simp [go_sem,e1,e3,e5,e7,hlt,w1];exact Keep.mk' ⟨by simp [go_sem,e1],by simp [go_sem,e3],by simp [go_sem,e5],by simp [go_sem],hI⟩
  ·rw [decide_eq_false h47,Bool.false_and,Bool.false_or]
   simp [go_sem,h47];refine qD.upK n.kids.length (fun k st=>st.tm 1=lBo c.timed∧st.tm 3 = .ip (cTS c.ts)∧st.tm 5 = .ip (cNd n)∧st.tm 7=aI k∧(n.kids.drop k).any (yJ c)=R) ?_ ?_
   ·exact ⟨by simp [go_sem],by simp [go_sem],by simp [go_sem],by simp [go_sem],by simpa using hR⟩
   rintro k st hk ⟨e1,e3,e5,e7,hI⟩;by_cases hkl:k=n.kids.length
   ·subst hkl
    rw [List.drop_length] at hI;have hI:R=false:=by rw [←hI];rfl
    subst hI;simp [go_sem,e1,e3,e5,e7];exact .hf _ (HF.sc _)
   have hlt:k<n.kids.length:=by omega
   have w1:IntKind.i64.wrap ((k:Int)+1)=(k:Int)+1:=qy (by omega) (by omega);rw [zA hlt,List.any_cons] at hI;have hi:=ih n.kids[k] (qJ hlt);simp [go_sem,e1,e3,e5,e7,hlt,qr];refine qx.intro (by kernel_rfl) ?_;simp [go_sem,e1,e3,e5,e7,hlt,qr];refine qc.pure hi (.cons (.hf (zq _)) (.cons (.hf (Jf _)) (.cons (.hf (qO _)) .nil))) ?_;cases hq:yJ c n.kids[k] with
   |true =>
    rw [hq,Bool.true_or] at hI;subst hI;simp [go_sem,e1,e3,e5,e7,hlt];exact .hf _ (HF.sc _)
   |false =>
    rw [hq,Bool.false_or] at hI;simp [go_sem,e1,e3,e5,e7,hlt,w1];exact Keep.mk' ⟨by simp [go_sem,e1],by simp [go_sem,e3],by simp [go_sem,e5],by simp [go_sem],hI⟩
theorem WY (l:List Bool):zC 1 (l.map rBo):=fun r hr=>by
 obtain ⟨b,_,rfl⟩:=qE.1 hr;exact ⟨rfl,rfl⟩
theorem appBo {mu:Mu} {lo:Nat} {s:AV} {xs:List Bool} {b:Bool} {K:AV→Mu→Prop} (ho:OwnF lo mu 1 s (xs.map rBo)) (hl:xs.length≤100000) (kk:∀ av mu',OwnF lo mu' 1 av ((xs++[b]).map rBo)→(∀ i,i<lo→mu'[i]?=mu[i]?)→K av mu') :
  zo Tryz.prog mu #[97,97] s (.lst true [[aB b]]) K:=by
 refine zo.ownF (lo:=lo) (e:=4) (sz:=1) (bt:=1) (zv:=aB false) (xs:=xs.map rBo) (ys:=[rBo b]) (by simp [go_sem]) (by simp [go_sem]) (by simp [go_sem]) rfl rfl (by omega) (by omega) ho (by simp [zf]) (WY xs) (WY [b]) (by simp;omega) ?_;intro av mu' h h2;exact kk av mu' (by rw [List.map_append];exact h) h2
theorem rdBo {lo:Nat} {mu:Mu} {av:AV} {l:List Bool} (ho:OwnF lo mu 1 av (l.map rBo)):Rd mu av (lBo l):=
 Own.rd (sz:=1) ho.1 (WY l).ok fun r hr c hc=>by
  obtain ⟨b,_,rfl⟩:=qE.1 hr;rw [zj] at hc;subst hc;exact HF.sc _
theorem gu (ts:TS) (h:okTS ts) (hp:∀ p,p∈ts.preds→WfN p.body):qt Tryz.prog 47 [eTS ts] (lBo (tmsL ts ts.preds.length)):=by
 refine qSQ Tryz.call47 Tryz.func47 rfl {} ?_;have hnp:=h.np;simp [go_sem];refine qD.upK ts.preds.length (fun k st=>st.tm 1 = .ip (cTS ts)∧st.tm 4=aI k∧OwnF 0 st.mu 1 (st.tm 3) ((tmsL ts k).map rBo)) ?_ ?_
 ·exact ⟨by simp [go_sem],by simp [go_sem],by simp [go_sem,tmsL];exact OwnF.nil (Nat.zero_le _)⟩
 rintro k st hk ⟨e1,e4,ho⟩;by_cases hlt:k<ts.preds.length
 ·have w1:IntKind.i64.wrap ((k:Int)+1)=(k:Int)+1:=qy (by omega) (by omega)
  generalize h3:st.tm 3=av at *
  have hrd:=rdBo ho;have ht:=gq (mkCk ts k) (vO h (by omega)) (Qe ts k (by omega)) (szN ts.preds[k].body) ts.preds[k].body (qB _) (hp _ (qJ hlt)).small;have hlen:=Qe ts k (by omega);have hnext:tmsL ts (k+1)=tmsL ts k++[yJ (mkCk ts k) ts.preds[k].body]:=by
   show tmsL ts k++(match ts.preds[k]? with | some p=>[yJ ⟨ts,k,tmsL ts k⟩ p.body] | none=>[])=_;rw [qX hlt];rfl
  simp [go_sem,e1,e4,h3,hlt,jt];refine qx.intro (by kernel_rfl) ?_;simp [go_sem,e1,e4,h3,hlt,jt];refine qc.lend (args':=[eTS ts,lBo (tmsL ts k),eNd ts.preds[k].body]) ht ⟨.hf _ (zq ts),hrd,.hf _ (qO _),trivial⟩ (FL.sc _) ?_;simp [go_sem,e1,e4,h3,hlt,jt];refine appBo ho (by omega) fun av' m' ho' _=>?_
  simp [go_sem,e1,e4,h3,hlt,w1];exact Keep.mk' ⟨by simp [go_sem,e1],by simp [go_sem],by rw [hnext];simpa [go_sem] using ho'⟩
 ·have hke:k=ts.preds.length:=by omega
  subst hke;generalize h3:st.tm 3=av at *
  simp [go_sem,e1,e4,h3];exact rdBo ho
end Go.Proofs.YtcfopdccdeeleaaGreatDoor.QI


namespace Go.Proofs.YtcfopdccdeeleaaGreatDoor.QJ
open Go Go.Ev Go.Proofs Go.Proofs.YtcfopdccdeeleaaGreatDoor YM YF Y9 Y10 Y1 Y2 Y3 P1 P2 PA PB QD QE QF QG QH QI
abbrev Vr:=ByteArray×RS
abbrev cVr (v:Vr):List AV:=aS v.1 :: cRS v.2
abbrev lVr (l:List Vr):AV := .lst false (l.map cVr)
theorem gw (v:Vr):∀ c,c∈cVr v→HF c:=fun c hc=>by
 rcases qK.1 hc with rfl | hc
 ·exact HF.sc _
 ·exact ((setC v.2).sc c hc).2
theorem qgV (l:List Vr):HF (lVr l):=HF.lst fun r hr c hc=>by
 obtain ⟨v,_,rfl⟩:=qE.1 hr;exact gw v c hc
theorem WZ (v:Vr):∀ c,c∈cVr v→c.one=true:=fun c hc=>by
 rcases qK.1 hc with rfl | hc
 ·rfl
 ·exact ((setC v.2).sc c hc).1
theorem W0 (l:List Vr):zC 66 (l.map cVr):=fun r hr=>by
 obtain ⟨v,_,rfl⟩:=qE.1 hr;exact ⟨by simp [hB],List.all_eq_true.2 (WZ v)⟩
theorem W3 {mu:Mu} {lo:Nat} {s x:AV} {xs ys:List Vr} {K:AV→Mu→Prop} (ho:OwnF lo mu 66 s (xs.map cVr)) (hx:zf mu x=some (ys.map cVr)) (hl:xs.length+ys.length≤100000) (kk:∀ av mu',OwnF lo mu' 66 av ((xs++ys).map cVr)→(∀ i,i<lo→mu'[i]?=mu[i]?)→K av mu') :
  zo Tryz.prog mu #[101,101] s x K:=by
 refine zo.ownF (lo:=lo) (e:=164) (sz:=66) (bt:=88) (zv := .agg (aS ⟨#[]⟩ :: aI 0 :: zs)) (xs:=xs.map cVr) (ys:=ys.map cVr) (by simp [go_sem]) (by simp [go_sem]) (by simp [go_sem];rfl) rfl rfl (by omega) (by omega) ho hx (W0 xs) (W0 ys) (by simp;omega) ?_;intro av mu' h h2;exact kk av mu' (by rw [List.map_append];exact h) h2
theorem rdVr {lo:Nat} {mu:Mu} {av:AV} {l:List Vr} (ho:OwnF lo mu 66 av (l.map cVr)):Rd mu av (lVr l):=
 Own.rd (sz:=66) ho.1 (W0 l).ok fun r hr c hc=>by
  obtain ⟨v,_,rfl⟩:=qE.1 hr;exact gw v c hc
theorem pcV (n:ByteArray) (q:RS):putCells (aS n :: aI 0 :: zs) 1 (aI q.1 :: hB q.2)=cVr (n,q):=by
 have hzl:zs.length=64:=rfl;rw [j5 _ _ _ (by simp [qm,hzl])];simp [qm,hzl,List.drop_of_length_le]
def envV (env:List (ByteArray×Int)):List Vr:=env.map fun p=>(p.1,qA (kOf [p.2]))
theorem envU (env:List (ByteArray×Int)) (hl:env.length≤1000) (hr:∀ p,p∈env→0≤p.2∧p.2<4):qt Tryz.prog 48 [lPm env] (lVr (envV env)):=by
 refine qSQ Tryz.call48 Tryz.func48 rfl {} ?_;simp [go_sem];refine qD.upK env.length (fun k st=>st.tm 0=lPm env∧st.tm 4=aI k∧OwnF 0 st.mu 66 (st.tm 3) ((envV (env.take k)).map cVr)) ?_ ?_
 ·exact ⟨by simp [go_sem],by simp [go_sem],by simp [go_sem,envV];exact OwnF.nil (Nat.zero_le _)⟩
 rintro k st hk ⟨e0,e4,ho⟩;by_cases hlt:k<env.length
 ·have w1:IntKind.i64.wrap ((k:Int)+1)=(k:Int)+1:=qy (by omega) (by omega)
  generalize h3:st.tm 3=av at *
  have hp:=hr _ (qJ hlt);have c1:qt Tryz.prog 76 [lI [env[k].2]] (eRS (qA (kOf [env[k].2]))):=by
   have:=oneU [env[k].2] (by simp);rw [WP] at this;rw [←QF.WW (l:=[env[k].2]) (by simp) (fun x hx=>by rw [zj] at hx;subst hx;exact hp)];exact this
  have hnext:envV (env.take (k+1))=envV (env.take k)++[(env[k].1,qA (kOf [env[k].2]))]:=by
   unfold envV;rw [List.take_succ_eq_append_getElem hlt,List.map_append];rfl
  have hlen:(envV (env.take k)).length=k:=by simp [envV];omega
  generalize qA (kOf [env[k].2])=q at *
  simp [go_sem,e0,e4,h3,hlt];refine qx.intro (by kernel_rfl) ?_;simp [go_sem,e0,e4,h3,hlt];refine qc.pure c1 (.cons (QD.wk1 _) .nil) ?_;simp [go_sem,e0,e4,h3,hlt];rw [if_pos ⟨qm _,qV _⟩];generalize hC:putCells _ 1 _=C;have hC2:C=cVr (env[k].1,q):=by rw [←hC];exact pcV _ _
  subst hC2;clear hC;have hcl:(cVr (env[k].1,q)).length=66:=by simp [qm]
  have hco:=WZ (env[k].1,q);generalize hV:cVr (env[k].1,q)=V at *
  simp [go_sem,e0,e4,h3,hlt,hcl];rw [if_pos hco];simp [go_sem,e0,e4,h3,hlt,hcl];refine W3 (ys:=[(env[k].1,q)]) ho (by simp [zf,hV]) (by simp;omega) fun av' m' ho' _=>?_
  simp [go_sem,e0,e4,h3,hlt,w1];exact Keep.mk' ⟨by simp [go_sem,e0],by simp [go_sem],by rw [hnext];simpa [go_sem] using ho'⟩
 ·have hke:k=env.length:=by omega
  subst hke;rw [jC] at ho;generalize h3:st.tm 3=av at *
  simp [go_sem,e0,e4,h3];exact rdVr ho
end Go.Proofs.YtcfopdccdeeleaaGreatDoor.QJ


namespace Go.Proofs.YtcfopdccdeeleaaGreatDoor.QK
open Go Go.Ev Go.Proofs Go.Proofs.YtcfopdccdeeleaaGreatDoor YM YF Y9 Y10 Y1 Y2 Y3 P1 P2 PA PB QD QE QF QG QH QI QJ
def fin (c:List AV) (l:List Kd):List AV:=match l.getLast? with | some k=>cRS (qA k) | none=>c
theorem Jh (c:List AV) (l m:List Kd):fin c (l++m)=fin (fin c l) m:=by
 unfold fin;rw [List.getLast?_append];cases m.getLast?<;>rfl
theorem VB (c:List AV) (k:Kd):fin c [k]=cRS (qA k):=rfl
theorem oneK {l:List Int} (h:1≤l.length∧l.length≤3) (hx:∀ x,x∈l→0≤x∧x<4):oneC l=cRS (qA (kOf l)):=by
 rw [WP];exact AV.agg.inj (QF.WW h hx)
theorem gy (nm:ByteArray):∀(l:List Fld) (c:List AV) (k:Nat),(∀ f,f∈l→(1≤f.sorts.length∧f.sorts.length≤3)∧∀ x,x∈f.sorts→0≤x∧x<4)→nmF nm l (c,k)=(fin c (yz l nm),k+(yz l nm).length)
 | [],c,k,_=>rfl
 |f :: l,c,k,h=>by
  have hf:=h f (zG ..);have ih:=fun c k=>gy nm l c k fun g hg=>h g (zt _ hg)
  by_cases hq:f.name=nm
  ·have e:yz (f :: l) nm=[kOf f.sorts]++yz l nm:=by simp [yz,hq]
   rw [e,Jh,VB];simp only [nmF,stF,if_pos hq];rw [ih,oneK hf.1 hf.2];simp;omega
  ·have e:yz (f :: l) nm=yz l nm:=by simp [yz,hq]
   rw [e];simp only [nmF,stF,if_neg hq];exact ih c k
theorem st_eq (nm:ByteArray) (i:Nat) (hi:i<4) (x:ByteArray×Bool) (c:List AV) (k:Nat):st3 nm i x (st2 nm i x (st1 nm i x (c,k)))=(fin c (vM i x nm),k+(vM i x nm).length):=by
 have o1:=oneK (l:=[(i:Int)]) (by simp) (fun y hy=>by simp at hy;subst hy;omega);have o2:=oneK (l:=[(i:Int),(i:Int)]) (by simp) (fun y hy=>by simp at hy;rcases hy with rfl | rfl<;>omega);have a1:∀ c k,st1 nm i x (c,k)=(fin c (if x.1=nm then [kOf [(i:Int)]] else []),k+(if x.1=nm then [kOf [(i:Int)]] else []).length):=fun c k=>by
  unfold st1;split
  ·rw [VB,o1];rfl
  ·rfl
 have a2:∀ c k,st2 nm i x (c,k)=(fin c (if x.2=true∧x.1++vy=nm then [kOf [(i:Int)]] else []),k+(if x.2=true∧x.1++vy=nm then [kOf [(i:Int)]] else []).length):=fun c k=>by
  unfold st2;split
  ·rw [VB,o1];rfl
  ·rfl
 have a3:∀ c k,st3 nm i x (c,k)=(fin c (if x.2=true∧x.1++v7=nm then [kOf [(i:Int),(i:Int)]] else []),k+(if x.2=true∧x.1++v7=nm then [kOf [(i:Int),(i:Int)]] else []).length):=fun c k=>by
  unfold st3;split
  ·rw [VB,o2];rfl
  ·rfl
 unfold vM;rw [a1,a2,a3,Jh,Jh,zr,zr];simp only [Nat.add_assoc]
theorem gA (nm:ByteArray):∀(l:List (ByteArray×Bool)) (i:Nat) (c:List AV) (k:Nat),i+l.length≤4→nmS nm i l (c,k)=(fin c (yA i l nm),k+(yA i l nm).length)
 | [],i,c,k,_=>rfl
 |x :: l,i,c,k,h=>by
  simp only [List.length_cons] at h;have ih:=fun c k=>gA nm l (i+1) c k (by omega)
  simp only [nmS,yA];rw [st_eq nm i (by omega),ih,Jh,zr,Nat.add_assoc]
theorem W4 {ts:TS} (h:okTS ts) (nm:ByteArray):named ts nm=(fin (aI 0 :: zs) (ya ts nm),(ya ts nm).length):=by
 unfold named ya;rw [gy nm ts.fields _ _ fun f hf=>?_,gA nm ts.sorts _ _ _ (by have:=h.ns;omega),Jh,zr,Nat.zero_add];have:=h.fl f hf;have hns:=h.ns;exact ⟨by omega,fun x hx=>by have:=this.2.2 x hx;omega⟩
end Go.Proofs.YtcfopdccdeeleaaGreatDoor.QK


namespace Go.Proofs.YtcfopdccdeeleaaGreatDoor.QL
open Go Go.Ev Go.Proofs Go.Proofs.YtcfopdccdeeleaaGreatDoor YM YF Y9 Y10 Y1 Y2 Y3 P1 P2 PA PB QD QE QF QG QH QI QJ QK
abbrev cVw (c:Ck) (inn:Bool):List AV:=[lSo c.ts.sorts,lFl c.ts.fields,lPd c.ts.preds,lFa c.ts.facts,lBo c.timed,aI c.calls,aB inn]
abbrev eVw (c:Ck) (inn:Bool):AV := .agg (cVw c inn)
def envS (s:Scp):List Vr:=s.reverse.map fun v=>(v.1,qA v.2)
theorem Ji (s:Scp):(envS s).length=s.length:=by simp [envS]
theorem VC (env:List (ByteArray×Int)):envV env=envS (zQ env):=by
 have h:∀(l:List (ByteArray×Int)) (a:Scp),l.foldl (fun s p=>(p.1,kOf [p.2]) :: s) a=(l.map fun p=>(p.1,kOf [p.2])).reverse++a:=by
  intro l;induction l with
  |nil=>intro a;rfl
  |cons p l ih=>intro a;rw [List.foldl_cons,ih];simp
 unfold envV envS zQ;rw [h,List.append_nil,List.reverse_reverse,List.map_map];rfl
theorem qgW (s:Scp) (d:Nat) (h:d<s.length) (h':s.length-1-d<(envS s).length):(envS s)[s.length-1-d]=(s[d].1,qA s[d].2):=by
 have e:s.length-1-(s.length-1-d)=d:=by omega
 simp [envS,List.getElem_reverse,e]
abbrev zR:RS:=(0,fun _=>false)
abbrev eDg (d:Dg):AV := .agg [aI d.1,aI d.2]
def endR (z:RS):Res→AV
 | .error e => .tup [eRS z,eDg e]
 | .ok (some k) => .tup [eRS (qA k),eDg (0,0)]
 | .ok none => .tup [eRS zR,eDg (0,0)]
theorem yg (s:RS) (d:Dg):HF (.tup [eRS s,eDg d]):=HF.tup fun x hx=>by
 rcases qK.1 hx with rfl | hx
 ·exact yp s
 ·rw [zj] at hx;subst hx
  exact HF.agg fun c hc=>by
   rcases qK.1 hc with rfl | hc
   ·exact HF.sc _
   ·rw [zj] at hc;subst hc;exact HF.sc _
theorem okNm.ofTS {ts:TS} (h:okTS ts):okNm ts:=⟨h.sl,by have:=h.ns;omega,by have:=h.nf;omega,fun f hf=>by have:=h.fl f hf;omega⟩
theorem Wh (c:Ck) (hc:okCk c) (inn:Bool) (s:Scp) (n:Nd) (hs:s.length≤100000):qt Tryz.prog 94 [eVw c inn,lVr (envS s),eNd n] (endR zR (jj c s n.name n.pos)):=by
 generalize hR:endR zR (jj c s n.name n.pos)=R;unfold jj at hR;refine qSQ Tryz.call94 Tryz.func94 rfl {} ?_;have hel:=Ji s;have w0:IntKind.i64.wrap ((s.length:Int)-1)=(s.length:Int)-1:=qy (by omega) (by omega);simp [go_sem,hel,w0];refine qD.upK s.length (fun d st=>st.tm 1=lVr (envS s)∧st.tm 3 = .ip (cVw c inn)∧st.tm 5 = .ip (cNd n)∧st.tm 6 = .ptr 0 0∧st.tm 7 = .ptr 1 0∧st.tm 8=aI ((s.length:Int)-1-d)∧st.mu=[.arr (aI 0 :: hB fun _=>false),.arr [aI 0,aI 0]]∧ji n.name (s.drop d)=ji n.name s) ?_ ?_
 ·exact ⟨by simp [go_sem],by simp [go_sem],by simp [go_sem],by simp [go_sem],by simp [go_sem],by simp [go_sem],by simp [go_sem];first | rfl | exact ⟨rfl,rfl⟩,rfl⟩
 rintro d st hd ⟨e1,e3,e5,e6,e7,e8,hm,hI⟩;by_cases hlt:d<s.length
 ·have hl:s.length-1-d<(envS s).length:=by omega
  have hget:=qgW s d hlt hl;obtain ⟨e,he⟩:∃ e:Nat,e=s.length-1-d:=⟨_,rfl⟩;have hei:(s.length:Int)-1-d=(e:Int):=by omega
  rw [hei] at e8;rw [←he] at hl;have hget:(envS s)[e]=(s[d].1,qA s[d].2):=by simp only [he];exact hget
  have w1:IntKind.i64.wrap ((e:Int)-1)=(s.length:Int)-1-((d+1:Nat):Int):=by rw [qy (by omega) (by omega)];omega
  rw [zA hlt] at hI;have h0:(0:Int)≤(e:Int):=by omega
  by_cases hq:s[d].1=n.name
  ·have hf:ji n.name s=s[d] :: s.drop (d+1):=by rw [←hI,ji,if_pos hq]
   rw [hf] at hR;simp only [endR] at hR;have hR:R = .tup [eRS (qA s[d].2),eDg (0,0)]:=hR.symm;subst hR;simp [go_sem,e1,e3,e5,e6,e7,e8,hm,hl,hget];refine qx.intro (by kernel_rfl) ?_;simp [go_sem,e1,e3,e5,e6,e7,e8,hm,hl,hget,hq];generalize qA s[d].2=q at *
   simp [go_sem,e1,e3,e5,e6,e7,e8,hm,hl,hget,qm,tk,pc];rw [if_pos (qV _)];simp [go_sem,e1,e3,e5,e6,e7,e8,hm,qm,tk,pc];exact .hf _ (yg q (0,0))
  ·rw [ji,if_neg hq] at hI
   simp [go_sem,e1,e3,e5,e6,e7,e8,hm,hl,hget];refine qx.intro (by kernel_rfl) ?_;simp [go_sem,e1,e3,e5,e6,e7,e8,hm,hl,hget,zL hq,w1,qm];exact ⟨by omega,Keep.mk' ⟨by simp [go_sem,e1],by simp [go_sem,e3],by simp [go_sem,e5],by simp [go_sem,e6],by simp [go_sem,e7],by simp [go_sem],by simp [go_sem],hI⟩⟩
 ·have hde:d=s.length:=by omega
  subst hde;have e8:st.tm 8=aI (-1):=by rw [e8];congr 2;omega
  rw [List.drop_length] at hI;rw [←hI] at hR;simp only [ji] at hR;have hN:=WO c.ts (okNm.ofTS hc.ts) n.name;have hNs:=WN c.ts n.name;rw [W4 hc.ts] at hN hNs;simp [go_sem,e1,e3,e5,e6,e7,e8,hm];refine qc.pure hN (.cons (.hf (zq _)) (.cons (.hf (HF.sc _)) .nil)) ?_;have hF:SetC (fin (aI 0 :: zs) (ya c.ts n.name)):=hNs;generalize hms:ya c.ts n.name=ms at *
  match ms,hms with
  | [],_ =>
   simp only [endR] at hR;subst hR;generalize fin (aI 0 :: zs) []=C at *
   simp [go_sem,e1,e3,e5,e6,e7,e8,hm,hF.len,uR,qm,tk,pc];rw [if_pos hF.one];simp [go_sem,e1,e3,e5,e6,e7,e8,hm,hF.len,uR,qm,tk,pc];refine qx.float [] [0,1,2,3] [(4,true),(5,false)] (by kernel_rfl) (by kernel_rfl) (by kernel_rfl) ?_;simp [go_sem,e1,e3,e5,e6,e7,e8,hm,hF.len,uR,qm,tk,pc];exact ⟨rfl,.hf _ (yg zR (_,n.pos))⟩
  | [k],_ =>
   simp only [endR] at hR;subst hR;have e:fin (aI 0 :: zs) [k]=aI (qA k).1 :: hB (qA k).2:=rfl;rw [e] at hF ⊢;generalize qA k=q at *
   simp [go_sem,e1,e3,e5,e6,e7,e8,hm,hF.len,uR,qm,tk,pc];rw [if_pos (qV _)];generalize hP:putCells _ 0 (aI q.1 :: hB q.2)=P;have hP2:P=aI q.1 :: hB q.2:=by rw [←hP];exact pc (aI 0) _ (fun _=>false) _
   subst hP2;clear hP;simp [go_sem,e1,e3,e5,e6,e7,e8,hm,hF.len,uR,qm,tk,pc];rw [if_pos (qV _)];simp [go_sem,e1,e3,e5,e6,e7,e8,hm,hF.len,uR,qm,tk,pc];exact .hf _ (yg q (0,0))
  |k1 :: k2 :: l,_ =>
   simp only [endR] at hR;subst hR;generalize fin (aI 0 :: zs) (k1 :: k2 :: l)=C at *
   simp [go_sem,e1,e3,e5,e6,e7,e8,hm,hF.len,uR,qm,tk,pc];rw [if_pos hF.one];simp [go_sem,e1,e3,e5,e6,e7,e8,hm,hF.len,uR,qm,tk,pc];have hl0:¬((l.length:Int)+1+1=0):=by omega
   have hl1:(1:Int)<(l.length:Int)+1+1:=by omega
   simp [go_sem,e1,e3,e5,e6,e7,e8,hm,hl0,hl1];refine qx.float [] [0,1,2,3] [(4,true),(5,false)] (by kernel_rfl) (by kernel_rfl) (by kernel_rfl) ?_;simp [go_sem,e1,e3,e5,e6,e7,e8,hm,hF.len,uR,qm,tk,pc];exact ⟨rfl,.hf _ (yg zR (_,n.pos))⟩
end Go.Proofs.YtcfopdccdeeleaaGreatDoor.QL


namespace Go.Proofs.YtcfopdccdeeleaaGreatDoor.QM
open Go Go.Ev Go.Proofs Go.Proofs.YtcfopdccdeeleaaGreatDoor YM YF Y9 Y10 Y1 Y2 Y3 P1 P2 PA PB QD QE QF QG QH QI QJ QK QL
theorem qgX (n:Nd):qt Tryz.prog 111 [eNd n] (aB (decide (30≤n.op))):=by
 refine qSQ Tryz.call111 Tryz.func111 rfl {} ?_;by_cases h:30≤n.op
 ·simp [go_sem,h];exact .hf _ (HF.sc _)
 ·simp [go_sem,h];exact .hf _ (HF.sc _)
end Go.Proofs.YtcfopdccdeeleaaGreatDoor.QM


namespace Go.Proofs.YtcfopdccdeeleaaGreatDoor.QN
open Go Go.Ev Go.Proofs Go.Proofs.YtcfopdccdeeleaaGreatDoor Y1 Y2 Y3 YM YF Y9 Y10 Y12 P1 P2 PA PB QD QE QF QG QH QI QJ QK QL QM
def setO:Option Kd→RS
 |some k=>qA k
 |none=>zR
abbrev lRS (l:List RS):AV := .lst false (l.map cRS)
theorem qgY (v:RS):∀ c,c∈cRS v→HF c:=fun c hc=>((setC v).sc c hc).2
theorem qgZ (v:RS):∀ c,c∈cRS v→c.one=true:=fun c hc=>((setC v).sc c hc).1
theorem W5 (l:List RS):zC 65 (l.map cRS):=fun r hr=>by
 obtain ⟨v,_,rfl⟩:=qE.1 hr;exact ⟨by simp [hB],List.all_eq_true.2 (qgZ v)⟩
theorem ZJ {mu:Mu} {lo:Nat} {s x:AV} {xs ys:List RS} {K:AV→Mu→Prop} (ho:OwnF lo mu 65 s (xs.map cRS)) (hx:zf mu x=some (ys.map cRS)) (hl:xs.length+ys.length≤100000) (kk:∀ av mu',OwnF lo mu' 65 av ((xs++ys).map cRS)→(∀ i,i<lo→mu'[i]?=mu[i]?)→K av mu') :
  zo Tryz.prog mu #[159,159] s x K:=by
 refine zo.ownF (lo:=lo) (e:=57) (sz:=65) (bt:=72) (zv := .agg (aI 0 :: zs)) (xs:=xs.map cRS) (ys:=ys.map cRS) (by simp [go_sem]) (by simp [go_sem]) (by simp [go_sem];rfl) rfl rfl (by omega) (by omega) ho hx (W5 xs) (W5 ys) (by simp;omega) ?_;intro av mu' h h2;exact kk av mu' (by rw [List.map_append];exact h) h2
theorem rdRS {lo:Nat} {mu:Mu} {av:AV} {l:List RS} (ho:OwnF lo mu 65 av (l.map cRS)):Rd mu av (lRS l):=
 Own.rd (sz:=65) ho.1 (W5 l).ok fun r hr c hc=>by
  obtain ⟨v,_,rfl⟩:=qE.1 hr;exact qgY v c hc
theorem jB (s:RS) (b:Bool):HF (.tup [eRS s,aB b]):=HF.tup fun x hx=>by
 rcases qK.1 hx with rfl | hx
 ·exact yp s
 ·rw [zj] at hx;subst hx;exact HF.sc _
def ApE (op:Int):Res→RS→Bool→Prop
 | .ok k,S,b=>b=true∧(kd op=101→∃ q,k=some q∧S=qA q)
 | .error _,S,b=>b=false
theorem wkS1 (a:RS):WKs [eRS a] [eRS a] := .cons (.hf (yp _)) .nil
theorem wkS2 (a b:RS):WKs [eRS a,eRS b] [eRS a,eRS b] := .cons (.hf (yp _)) (.cons (.hf (yp _)) .nil)
theorem wkTI (ts:TS) (k:Int):WKs [eTS ts,aI k] [eTS ts,aI k] := .cons (.hf (zq _)) (.cons (.hf (HF.sc _)) .nil)
theorem gB (n:Int):eRS (n,fun _=>false)=eRS (qA ⟨n,[]⟩):=uZ rfl fun j _=>(decide_eq_false fun h=>absurd h.2 zb).symm
def itS:Nat→RS→RS
 | 0,s=>s
 |i+1,s=>uniS (itS i s) (Ql (itS i s) (itS i s))
theorem gC (s:RS):∀ i,(itS i s).1=s.1
 | 0=>rfl
 |i+1=>gC s i
theorem gD (s0:RS) (h:1≤s0.1∧s0.1≤3):qt Tryz.prog 153 [eRS s0] (eRS (itS 4 s0)):=by
 refine qSQ Tryz.call153 Tryz.func153 rfl { mt:=[1] } ?_;simp [go_sem,qm];refine ⟨qV _,?_⟩;refine qD.upK 4 (fun i st=>st.tm 1 = .ptr 0 0∧st.tm 2 = .ptr 1 0∧st.tm 3=aI i∧st.mu=[.arr (cRS (itS i s0)),.arr (aI 0 :: hB fun _=>false)]) ?_ ?_
 ·exact ⟨by simp [go_sem],by simp [go_sem],by simp [go_sem],by simp [go_sem];exact ⟨⟨rfl,rfl⟩,rfl⟩⟩
 rintro i st hi ⟨e1,e2,e3,hm⟩;by_cases hlt:i<4
 ·have hlt':(i:Int)<4:=by omega
  have w1:IntKind.i64.wrap ((i:Int)+1)=(i:Int)+1:=qy (by omega) (by omega);have har:=gC s0 i;have cj:=wX (itS i s0) (itS i s0) (by omega) (by omega);have cu:=uX (itS i s0) (Ql (itS i s0) (itS i s0));have hu:uniS (itS i s0) (Ql (itS i s0) (itS i s0))=itS (i+1) s0:=rfl;rw [hu] at cu;clear hu;generalize hs':itS (i+1) s0=s' at *
  generalize Ql (itS i s0) (itS i s0)=q at *
  generalize itS i s0=s at *
  simp [go_sem,e1,e2,e3,hm,hlt'];refine qx.intro (by kernel_rfl) ?_;simp [go_sem,e1,e2,e3,hm,qm,tk];refine qc.pure cj (.cons (.hf (yp _)) (.cons (.hf (yp _)) .nil)) ?_;simp [go_sem,e1,e2,e3,hm,qm,tk];refine qc.pure cu (.cons (.hf (yp _)) (.cons (.hf (yp _)) .nil)) ?_;simp [go_sem,e1,e2,e3,hm,qm,tk,pc];rw [if_pos (qV _)];simp [go_sem,e1,e2,e3,hm,qm,tk,pc,w1];exact ⟨hlt,Keep.mk' ⟨by simp [go_sem,e1],by simp [go_sem,e2],by simp [go_sem],by simp [go_sem,hs']⟩⟩
 ·have hie:i=4:=by omega
  subst hie;generalize itS 4 s0=s at *
  simp [go_sem,e1,e2,e3,hm,qm,tk,pc];rw [if_pos (qV _)];simp [go_sem,e1,e2,e3,hm,qm,tk,pc];exact .hf _ (yp s)
def prC (ts:TS) (n:Nd) (l:List RS) (S:RS) (b:Bool):Prop:=qt Tryz.prog 97 [eTS ts,eNd n,lRS l] (.tup [eRS S,aB b])
theorem ap2 (ts:TS) (n:Nd) (L:List RS) (h:n.op=2):prC ts n L (n.n,fun _=>false) true:=by
 unfold prC;refine qSQ Tryz.call97 Tryz.func97 rfl {} ?_;simp [go_sem,h,qm,tk,pc];exact .hf _ (jB (n.n,fun _=>false) true)
theorem ap3 (ts:TS) (ok:okTS ts) (n:Nd) (L:List RS) (h:n.op=3):prC ts n L (qA (zH ts.sorts.length 1)) true:=by
 unfold prC;refine qSQ Tryz.call97 Tryz.func97 rfl {} ?_;have c1:=allU ts ok 1 (by omega);generalize qA (zH ts.sorts.length 1)=q at *
 simp [go_sem,h];refine qc.pure c1 (wkTI ts 1) ?_;simp [go_sem,h,qm,tk,pc];rw [if_pos (qV _)];generalize hP:putCells _ 0 (aI q.1 :: hB q.2)=P;have hP2:P=aI q.1 :: hB q.2:=by rw [←hP];exact pc (aI 0) _ (fun _=>false) _
 subst hP2;clear hP;simp [go_sem,h,qm,tk,pc];exact .hf _ (jB q _)
theorem ap4 (ts:TS) (ok:okTS ts) (n:Nd) (L:List RS) (h:n.op=4):prC ts n L (qA (zH ts.sorts.length 2)) true:=by
 unfold prC;refine qSQ Tryz.call97 Tryz.func97 rfl {} ?_;have c1:=allU ts ok 2 (by omega);generalize qA (zH ts.sorts.length 2)=q at *
 simp [go_sem,h];refine qc.pure c1 (wkTI ts 2) ?_;simp [go_sem,h,qm,tk,pc];rw [if_pos (qV _)];generalize hP:putCells _ 0 (aI q.1 :: hB q.2)=P;have hP2:P=aI q.1 :: hB q.2:=by rw [←hP];exact pc (aI 0) _ (fun _=>false) _
 subst hP2;clear hP;simp [go_sem,h,qm,tk,pc];exact .hf _ (jB q _)
theorem ap5 (ts:TS) (n:Nd) (q:RS) (h:n.op=5):prC ts n [q] q true:=by
 unfold prC;refine qSQ Tryz.call97 Tryz.func97 rfl {} ?_;simp [go_sem,h,qm,tk,pc];rw [if_pos (qV _)];generalize hP:putCells _ 0 (aI q.1 :: hB q.2)=P;have hP2:P=aI q.1 :: hB q.2:=by rw [←hP];exact pc (aI 0) _ (fun _=>false) _
 subst hP2;clear hP;simp [go_sem,h,qm,tk,pc];exact .hf _ (jB q _)
theorem ap6 (ts:TS) (n:Nd) (q r S:RS) (h:n.op=6) (c:qt Tryz.prog 148 [eRS q,eRS r] (eRS S)):prC ts n [q,r] S (decide (q.1=r.1)):=by
 unfold prC;refine qSQ Tryz.call97 Tryz.func97 rfl {} ?_;simp [go_sem,h,qm,tk,pc];refine qx.floatY [] [10,14] [0,1,2,3,4,5,7,8,9,10,11,12,13,14,15] [(6,false),(16,false),(17,false)] (by kernel_rfl) (by kernel_rfl) (by kernel_rfl) ?_;simp [go_sem,h,qm,tk,pc];refine qc.pure c (wkS2 q r) ?_;simp [go_sem,h,qm,tk,pc];rw [if_pos (qV _)];generalize hP:putCells _ 0 (aI S.1 :: hB S.2)=P;have hP2:P=aI S.1 :: hB S.2:=by rw [←hP];exact pc (aI 0) _ (fun _=>false) _
 subst hP2;clear hP;simp [go_sem,h,qm,tk,pc];exact .hf _ (jB S _)
theorem ap14 (ts:TS) (n:Nd) (q r S:RS) (h:n.op=14) (c:qt Tryz.prog 148 [eRS q,eRS r] (eRS S)):prC ts n [q,r] S (decide (q.1=r.1)):=by
 unfold prC;refine qSQ Tryz.call97 Tryz.func97 rfl {} ?_;simp [go_sem,h,qm,tk,pc];refine qx.floatY [] [10,14] [0,1,2,3,4,5,7,8,9,10,11,12,13,14,15] [(6,false),(16,false),(17,false)] (by kernel_rfl) (by kernel_rfl) (by kernel_rfl) ?_;simp [go_sem,h,qm,tk,pc];refine qc.pure c (wkS2 q r) ?_;simp [go_sem,h,qm,tk,pc];rw [if_pos (qV _)];generalize hP:putCells _ 0 (aI S.1 :: hB S.2)=P;have hP2:P=aI S.1 :: hB S.2:=by rw [←hP];exact pc (aI 0) _ (fun _=>false) _
 subst hP2;clear hP;simp [go_sem,h,qm,tk,pc];exact .hf _ (jB S _)
theorem ap7 (ts:TS) (n:Nd) (q r S:RS) (h:n.op=7) (c:qt Tryz.prog 149 [eRS q,eRS r] (eRS S)):prC ts n [q,r] S (decide (q.1=r.1)):=by
 unfold prC;refine qSQ Tryz.call97 Tryz.func97 rfl {} ?_;simp [go_sem,h,qm,tk,pc];refine qx.floatY [] [10,14] [0,1,2,3,4,5,7,8,9,10,11,12,13,14,15] [(6,false),(16,false),(17,false)] (by kernel_rfl) (by kernel_rfl) (by kernel_rfl) ?_;simp [go_sem,h,qm,tk,pc];refine qc.pure c (wkS2 q r) ?_;simp [go_sem,h,qm,tk,pc];rw [if_pos (qV _)];generalize hP:putCells _ 0 (aI S.1 :: hB S.2)=P;have hP2:P=aI S.1 :: hB S.2:=by rw [←hP];exact pc (aI 0) _ (fun _=>false) _
 subst hP2;clear hP;simp [go_sem,h,qm,tk,pc];exact .hf _ (jB S _)
theorem ap8 (ts:TS) (n:Nd) (q r:RS) (h:n.op=8):prC ts n [q,r] q (decide (q.1=r.1)):=by
 unfold prC;refine qSQ Tryz.call97 Tryz.func97 rfl {} ?_;simp [go_sem,h,qm,tk,pc];refine qx.floatY [] [6,10] [0,1,2,3,4,5,6,7,8,9,10,11] [(12,false),(13,false)] (by kernel_rfl) (by kernel_rfl) (by kernel_rfl) ?_;simp [go_sem,h,qm,tk,pc];rw [if_pos (qV _)];generalize hP:putCells _ 0 (aI q.1 :: hB q.2)=P;have hP2:P=aI q.1 :: hB q.2:=by rw [←hP];exact pc (aI 0) _ (fun _=>false) _
 subst hP2;clear hP;simp [go_sem,h,qm,tk,pc];exact .hf _ (jB q _)
theorem ap32 (ts:TS) (n:Nd) (q r:RS) (h:n.op=32):prC ts n [q,r] zR (decide (q.1=r.1)):=by
 unfold prC;refine qSQ Tryz.call97 Tryz.func97 rfl {} ?_;simp [go_sem,h,qm,tk,pc];refine qx.floatY [] [4,8] [0,1,2,3,4,5,6,7,8,9] [(10,false),(11,false)] (by kernel_rfl) (by kernel_rfl) (by kernel_rfl) ?_;simp [go_sem,h,qm,tk,pc];exact .hf _ (jB zR _)
theorem ap33 (ts:TS) (n:Nd) (q r:RS) (h:n.op=33):prC ts n [q,r] zR (decide (q.1=r.1)):=by
 unfold prC;refine qSQ Tryz.call97 Tryz.func97 rfl {} ?_;simp [go_sem,h,qm,tk,pc];refine qx.floatY [] [4,8] [0,1,2,3,4,5,6,7,8,9] [(10,false),(11,false)] (by kernel_rfl) (by kernel_rfl) (by kernel_rfl) ?_;simp [go_sem,h,qm,tk,pc];exact .hf _ (jB zR _)
theorem ap9 (ts:TS) (n:Nd) (q r S:RS) (h:n.op=9) (hq:0≤q.1∧q.1≤1000) (hr:0≤r.1∧r.1≤1000) (c:qt Tryz.prog 150 [eRS q,eRS r] (eRS S)):prC ts n [q,r] S (decide (1≤q.1+r.1-2∧q.1+r.1-2≤3)):=by
 unfold prC;refine qSQ Tryz.call97 Tryz.func97 rfl {} ?_;have w1:IntKind.i64.wrap (q.1+r.1)=q.1+r.1:=qy (by omega) (by omega);have w2:IntKind.i64.wrap (q.1+r.1-2)=q.1+r.1-2:=qy (by omega) (by omega);simp [go_sem,h,qm,tk,pc];refine qx.intro (by kernel_rfl) ?_;simp [go_sem,h,qm,tk,pc,w1,w2];refine qx.intro (by kernel_rfl) ?_;by_cases h1:1≤q.1+r.1-2
 ·simp [go_sem,h,qm,tk,pc,w1,w2,h1]
  refine qc.pure c (wkS2 q r) ?_;simp [go_sem,h,qm,tk,pc,h1];rw [if_pos (qV _)];generalize hP:putCells _ 0 (aI S.1 :: hB S.2)=P;have hP2:P=aI S.1 :: hB S.2:=by rw [←hP];exact pc (aI 0) _ (fun _=>false) _
  subst hP2;clear hP;simp [go_sem,h,qm,tk,pc,h1];exact .hf _ (jB S _)
 ·simp [go_sem,h,qm,tk,pc,w1,w2,h1]
  refine qc.pure c (wkS2 q r) ?_;simp [go_sem,h,qm,tk,pc,h1];rw [if_pos (qV _)];generalize hP:putCells _ 0 (aI S.1 :: hB S.2)=P;have hP2:P=aI S.1 :: hB S.2:=by rw [←hP];exact pc (aI 0) _ (fun _=>false) _
  subst hP2;clear hP;simp [go_sem,h,qm,tk,pc,h1];exact .hf _ (jB S _)
theorem ap10 (ts:TS) (n:Nd) (q r S:RS) (h:n.op=10) (hq:0≤q.1∧q.1≤1000) (hr:0≤r.1∧r.1≤1000) (c:qt Tryz.prog 151 [eRS q,eRS r] (eRS S)):prC ts n [q,r] S (decide (q.1+r.1≤3)):=by
 unfold prC;refine qSQ Tryz.call97 Tryz.func97 rfl {} ?_;have w1:IntKind.i64.wrap (q.1+r.1)=q.1+r.1:=qy (by omega) (by omega);simp [go_sem,h,qm,tk,pc];refine qx.floatY [] [10,14] [0,1,2,3,4,5,7,8,9,10,11,12,13,14,15,16] [(6,false),(17,false),(18,false)] (by kernel_rfl) (by kernel_rfl) (by kernel_rfl) ?_;simp [go_sem,h,qm,tk,pc,w1];refine qc.pure c (wkS2 q r) ?_;simp [go_sem,h,qm,tk,pc,w1];rw [if_pos (qV _)];generalize hP:putCells _ 0 (aI S.1 :: hB S.2)=P;have hP2:P=aI S.1 :: hB S.2:=by rw [←hP];exact pc (aI 0) _ (fun _=>false) _
 subst hP2;clear hP;simp [go_sem,h,qm,tk,pc,w1];exact .hf _ (jB S _)
theorem ap11 (ts:TS) (n:Nd) (q S:RS) (h:n.op=11) (c:qt Tryz.prog 152 [eRS q] (eRS S)):prC ts n [q] S (decide (q.1=2)):=by
 unfold prC;refine qSQ Tryz.call97 Tryz.func97 rfl {} ?_;simp [go_sem,h,qm,tk,pc];refine qx.floatY [] [7] [0,1,2,4,5,6,7,8] [(3,false),(9,false),(10,false)] (by kernel_rfl) (by kernel_rfl) (by kernel_rfl) ?_;simp [go_sem,h,qm,tk,pc];refine qc.pure c (wkS1 q) ?_;simp [go_sem,h,qm,tk,pc];rw [if_pos (qV _)];generalize hP:putCells _ 0 (aI S.1 :: hB S.2)=P;have hP2:P=aI S.1 :: hB S.2:=by rw [←hP];exact pc (aI 0) _ (fun _=>false) _
 subst hP2;clear hP;simp [go_sem,h,qm,tk,pc];exact .hf _ (jB S _)
theorem ap12 (ts:TS) (n:Nd) (q S:RS) (h:n.op=12) (c:qt Tryz.prog 153 [eRS q] (eRS S)):prC ts n [q] S (decide (q.1=2)):=by
 unfold prC;refine qSQ Tryz.call97 Tryz.func97 rfl {} ?_;simp [go_sem,h,qm,tk,pc];refine qx.floatY [] [7] [0,1,2,4,5,6,7,8] [(3,false),(9,false),(10,false)] (by kernel_rfl) (by kernel_rfl) (by kernel_rfl) ?_;simp [go_sem,h,qm,tk,pc];refine qc.pure c (wkS1 q) ?_;simp [go_sem,h,qm,tk,pc];rw [if_pos (qV _)];generalize hP:putCells _ 0 (aI S.1 :: hB S.2)=P;have hP2:P=aI S.1 :: hB S.2:=by rw [←hP];exact pc (aI 0) _ (fun _=>false) _
 subst hP2;clear hP;simp [go_sem,h,qm,tk,pc];exact .hf _ (jB S _)
theorem ap13 (ts:TS) (ok:okTS ts) (n:Nd) (q C S:RS) (h:n.op=13) (c:qt Tryz.prog 153 [eRS q] (eRS C)) (c2:qt Tryz.prog 148 [eRS C,eRS (qA (zH ts.sorts.length 2))] (eRS S)):prC ts n [q] S (decide (q.1=2)):=by
 unfold prC;refine qSQ Tryz.call97 Tryz.func97 rfl {} ?_;have c1:=allU ts ok 2 (by omega);generalize qA (zH ts.sorts.length 2)=D at *
 simp [go_sem,h,qm,tk,pc];refine qx.floatY [] [4,10] [0,1,2,4,7,8,9,10,11] [(3,false),(5,false),(6,false),(12,false),(13,false)] (by kernel_rfl) (by kernel_rfl) (by kernel_rfl) ?_;simp [go_sem,h,qm,tk,pc];refine qc.pure c (wkS1 q) ?_;simp [go_sem,h,qm,tk,pc];refine qc.pure c1 (wkTI ts 2) ?_;simp [go_sem,h,qm,tk,pc];refine qc.pure c2 (wkS2 C D) ?_;simp [go_sem,h,qm,tk,pc];rw [if_pos (qV _)];generalize hP:putCells _ 0 (aI S.1 :: hB S.2)=P;have hP2:P=aI S.1 :: hB S.2:=by rw [←hP];exact pc (aI 0) _ (fun _=>false) _
 subst hP2;clear hP;simp [go_sem,h,qm,tk,pc];exact .hf _ (jB S _)
theorem apO (ts:TS) (n:Nd) (L:List RS) (h2:n.op≠2) (h3:n.op≠3) (h4:n.op≠4) (h5:n.op≠5) (h6:n.op≠6) (h14:n.op≠14) (h7:n.op≠7) (h8:n.op≠8) (h32:n.op≠32) (h33:n.op≠33) (h9:n.op≠9) (h10:n.op≠10) (h11:n.op≠11) (h12:n.op≠12) (h13:n.op≠13):prC ts n L zR true:=by
 unfold prC;refine qSQ Tryz.call97 Tryz.func97 rfl {} ?_;simp [go_sem,h2,h3,h4,h5,h6,h14,h7,h8,h32,h33,h9,h10,h11,h12,h13,qm,tk,pc];exact .hf _ (jB zR true)
end Go.Proofs.YtcfopdccdeeleaaGreatDoor.QN


namespace Go.Proofs.YtcfopdccdeeleaaGreatDoor.PC
open Go Go.Ev Go.Proofs Go.Proofs.YtcfopdccdeeleaaGreatDoor YM YS YF P1 P2 Y1 Y2 Y3 Y4 Y5 Y9 Y10 Y12 Y14 Y16 YX YZ YA YB PA YC YE YG Q1 Q3 Q4 Q6 PB
theorem apK1 (ns:Nat) (op n pos:Int) (a:Kd):yB ns op n pos [some a]=if op=2 then .ok (some ⟨n,[]⟩) else if op=3 then .ok (some (zH ns 1)) else if op=4 then .ok (some (zH ns 2)) else
  if op=5 then .ok (some a) else if op=11∨op=12∨op=13 then (if a.ar=2 then .ok (some (binK ns op a)) else .error (42,pos)) else .ok none:=rfl
theorem apK2 (ns : Nat) (op n pos : Int) (a b : Kd) : yB ns op n pos [some a, some b] = if op = 2 then .ok (some ⟨n, []⟩) else if op = 3 then .ok (some (zH ns 1)) else if op = 4 then .ok (some (zH ns 2)) else
      if op=6∨op=14∨op=7∨op=8∨op=32∨op=33 then (if a.ar=b.ar then .ok (some (uS op a b)) else .error (42,pos))
      else if op=9 then (if 1≤a.ar+b.ar-2∧a.ar+b.ar-2≤3 then .ok (some (zO a b)) else .error (42,pos))
      else if op=10 then (if a.ar+b.ar≤3 then .ok (some (wU a b)) else .error (42,pos))
      else .ok none:=rfl
theorem W6 (ts:TS) (i:Nat):∀ m,i<m→m≤ts.preds.length→∀(hi:i<ts.preds.length),(tmsL ts m).getD i false=yJ (mkCk ts i) ts.preds[i].body
 | 0,h,_,_=>absurd h (by omega)
 |m+1,h,hm,hi=>by
  have hl:=Qe ts m (by omega);have hmp:m<ts.preds.length:=by omega
  have e:tmsL ts (m+1)=tmsL ts m++[yJ (mkCk ts m) ts.preds[m].body]:=by
   show tmsL ts m++(match ts.preds[m]? with | some p=>[yJ ⟨ts,m,tmsL ts m⟩ p.body] | none=>[])=_;rw [qX hmp];rfl
  rw [e];by_cases hq:i<m
  ·rw [←W6 ts i m hq (by omega) hi]
   simp only [List.getD_eq_getElem?_getD];rw [qz (by omega)]
  ·have:i=m:=by omega
   subst this;simp only [List.getD_eq_getElem?_getD];rw [List.getElem?_append_right (by omega),hl];simp
def OwnT (n:Nd):Prop:=∀ x,x∈preN n→ownB x=true
theorem OwnT.kid {n k:Nd} (h:OwnT n) (hk:k∈n.kids):OwnT k:=fun x hx=>h x (k9 hk hx)
theorem W7 {ks:List Nd} {x:Nd} (h:x∈zz ks):∃ k,k∈ks∧x∈preN k:=by
 induction ks with
 |nil=>simp [zz] at h
 |cons a l ih =>
  simp only [zz,zh] at h;rcases h with h | h
  ·exact ⟨a,zG ..,h⟩
  ·obtain ⟨k,hk,hx⟩:=ih h
   exact ⟨k,zt _ hk,hx⟩
end Go.Proofs.YtcfopdccdeeleaaGreatDoor.PC


namespace Go.Proofs.YtcfopdccdeeleaaGreatDoor.PG
open Go Go.Ev Go.Proofs Go.Proofs.YtcfopdccdeeleaaGreatDoor YM YF Y1 Y2 Y3 Y4 P1 P2 Y9 PA YD PB YZ
theorem qg0 {ns:Nat} {op n pos:Int} {l:List (Option Kd)} {e:Dg} (h:yB ns op n pos l = .error e):40≤e.1:=by
 unfold yB at h
 repeat' split at h
 all_goals first
  | (cases h;done)
  | (cases h;simp)
theorem qg1 {c:Ck} {s:Scp} {nm:ByteArray} {pos:Int} {e:Dg} (h:jj c s nm pos = .error e):40≤e.1:=by
 unfold jj at h
 repeat' split at h
 all_goals first
  | (cases h;done)
  | (cases h;simp)
section
variable {c:Ck}
theorem Zr {inn:Bool}:∀{ks:List Nd} {s:Scp} {e:Dg},(∀ k,k∈ks→∀ s e,exam c s inn k = .error e→40≤e.1)→zB c s inn ks = .error e→40≤e.1
 | [],s,e,_,h=>by simp only [zB] at h;cases h
 |k :: ks,s,e,ih,h=>by
  simp only [zB] at h;split at h
  ·rename_i e' hx
   cases h;exact ih k (zG ..) s _ hx
  ·split at h
   ·rename_i e' hx
    cases h;exact Zr (fun k hk=>ih k (zt _ hk)) hx
   ·cases h
theorem Vg {pos:Int}:∀{ks:List Nd} {ps:List (ByteArray×Int)} {s:Scp} {e:Dg},(∀ k,k∈ks→∀ s e,exam c s true k = .error e→40≤e.1)→yc c s pos ps ks = .error e→40≤e.1
 | [],ps,s,e,_,h=>by cases ps<;>(simp only [yc] at h;cases h)
 |k :: ks,[],s,e,_,h=>by simp only [yc] at h;cases h
 |k :: ks,p :: ps,s,e,ih,h=>by
  simp only [yc] at h;split at h
  ·rename_i e' hx
   cases h;exact ih k (zG ..) s _ hx
  ·cases h;simp
  ·split at h
   ·split at h
    ·exact Vg (fun k hk=>ih k (zt _ hk)) h
    ·cases h;simp
   ·cases h;simp
theorem qg2 {inn:Bool} {nm:ByteArray} {pos:Int}:∀{ks:List Nd} {s:Scp} {e:Dg},(∀ k,k∈ks→∀ s e,exam c s inn k = .error e→40≤e.1)→yU c s inn nm pos ks = .error e→40≤e.1
 | [],s,e,_,h=>by simp only [yU] at h;cases h
 |k :: ks,s,e,ih,h=>by
  simp only [yU] at h;split at h
  ·rename_i e' hx
   cases h;exact ih k (zG ..) s _ hx
  ·cases h;simp
  ·split at h
   ·split at h
    ·rename_i e' hx
     cases h;exact Zr (fun k hk=>ih k (zt _ hk)) hx
    ·cases h
   ·cases h;simp
theorem uz (c:Ck):∀(m:Nat) (n:Nd) (s:Scp) (inn:Bool) (e:Dg),szN n≤m→exam c s inn n = .error e→40≤e.1
 | 0,n,_,_,_,hm,_=>by obtain ⟨op,nm,i,ks,p⟩:=n;simp [szN] at hm
 |m+1,n,s,inn,e,hm,h=>by
  have ih:∀ inn k,k∈n.kids→∀ s e,exam c s inn k = .error e→40≤e.1:=fun inn k hk s e h=>uz c m k s inn e (by have:=yu hk;omega) h
  rw [vA] at h;split at h
  ·cases h;simp
  split at h
  ·exact qg1 h
  split at h
  ·split at h
   ·split at h
    ·cases h;simp
    ·split at h
     ·cases h;simp
     ·split at h
      ·exact Vg (ih true) h
      ·cases h;simp
   ·cases h;simp
  split at h
  ·exact qg2 (ih _) h
  ·split at h
   ·rename_i e' hx
    cases h;exact Zr (ih _) hx
   ·exact qg0 h
end
theorem gE {ks:List Nd} {k:Nd} (h:k∈ks):depN k≤ym ks:=by
 induction ks with
 |nil=>simp at h
 |cons a l ih =>
  simp only [ym];rcases qK.1 h with rfl | h
  ·omega
  ·have:=ih h;omega
theorem gF (n:Nd):1≤depN n:=by
 rw [wv];have:∀ ks:List Nd,0≤ym ks:=by
  intro ks;induction ks with
  |nil=>simp [ym]
  |cons a l ih=>simp only [ym];omega
 have:=this n.kids;omega
end Go.Proofs.YtcfopdccdeeleaaGreatDoor.PG


namespace Go.Proofs.YtcfopdccdeeleaaGreatDoor.QO
open Go Go.Ev Go.Proofs Go.Proofs.YtcfopdccdeeleaaGreatDoor YM YF Y9 Y10 Y1 Y2 Y3 Y12 Y13 P1 P2 PA PB QD QE QF QG QH QI QJ QK QL QM QN PG PC
theorem gG {ts:TS} {n:Nd} {L:List RS} {S S':RS} {b:Bool} (e:eRS S=eRS S') (h:prC ts n L S b):prC ts n L S' b:=by
 unfold prC at h ⊢;rw [←e];exact h
theorem qg3 {ts:TS} {n:Nd} {a b:Kd} (ho:n.op=6∨n.op=14∨n.op=7∨n.op=8∨n.op=32∨n.op=33):∃ S,prC ts n [qA a,qA b] S (decide (a.ar=b.ar))∧(a.ar=b.ar→kd n.op=101→S=qA (uS n.op a b)):=by
 have e6:∀ op:Int,op=6∨op=14→uS op a b=kSum a b:=fun op h=>by unfold uS;rw [if_pos h]
 by_cases har:a.ar=b.ar
 ·rcases ho with h | h | h | h | h | h
  ·exact ⟨_,ap6 ts n _ _ _ h (by have:=uX (qA a) (qA b);rw [YY har] at this;exact this),fun _ _=>by rw [h,e6 6 (.inl rfl)]⟩
  ·exact ⟨_,ap14 ts n _ _ _ h (by have:=uX (qA a) (qA b);rw [YY har] at this;exact this),fun _ _=>by rw [h,e6 14 (.inr rfl)]⟩
  ·exact ⟨_,ap7 ts n _ _ _ h (by have:=p7 (qA a) (qA b);rw [qf3 har] at this;exact this),fun _ _=>by rw [h];rfl⟩
  ·exact ⟨_,ap8 ts n _ _ h,fun _ _=>by rw [h];rfl⟩
  ·exact ⟨_,ap32 ts n _ _ h,fun _ hk=>by rw [h] at hk;exact absurd hk (by decide)⟩
  ·exact ⟨_,ap33 ts n _ _ h,fun _ hk=>by rw [h] at hk;exact absurd hk (by decide)⟩
 ·rcases ho with h | h | h | h | h | h
  ·exact ⟨_,ap6 ts n _ _ _ h (uX (qA a) (qA b)),fun e=>absurd e har⟩
  ·exact ⟨_,ap14 ts n _ _ _ h (uX (qA a) (qA b)),fun e=>absurd e har⟩
  ·exact ⟨_,ap7 ts n _ _ _ h (p7 (qA a) (qA b)),fun e=>absurd e har⟩
  ·exact ⟨_,ap8 ts n _ _ h,fun e=>absurd e har⟩
  ·exact ⟨_,ap32 ts n _ _ h,fun e=>absurd e har⟩
  ·exact ⟨_,ap33 ts n _ _ h,fun e=>absurd e har⟩
theorem qg4 {ts:TS} (ok:okTS ts) {n:Nd} {a:Kd} (ha:okKd ts.sorts.length a) (ho:n.op=11∨n.op=12∨n.op=13):∃ S,prC ts n [qA a] S (decide (a.ar=2))∧(a.ar=2→S=qA (binK ts.sorts.length n.op a)):=by
 have hns:=ok.ns;by_cases h2:a.ar=2
 ·have hc:=J8 ha h2 hns
  rcases ho with h | h | h
  ·exact ⟨_,ap11 ts n _ _ h (by have:=p8 (qA a);rw [qgA ha hns h2] at this;exact this),fun _=>by rw [h];rfl⟩
  ·exact ⟨_,ap12 ts n _ _ h hc,fun _=>by rw [h];rfl⟩
  ·refine ⟨_,ap13 ts ok n _ _ (qA (kSum (kClo a) (zH ts.sorts.length 2))) h hc ?_,fun _=>by rw [h];rfl⟩
   have:=uX (qA (kClo a)) (qA (zH ts.sorts.length 2));rw [YY (show (kClo a).ar=2 from (Va ha h2).2)] at this;exact this
 ·have har:=ha.ar
  rcases ho with h | h | h
  ·exact ⟨_,ap11 ts n _ _ h (p8 (qA a)),fun e=>absurd e h2⟩
  ·exact ⟨_,ap12 ts n _ _ h (gD (qA a) har),fun e=>absurd e h2⟩
  ·exact ⟨_,ap13 ts ok n _ _ _ h (gD (qA a) har) (uX _ _),fun e=>absurd e h2⟩
theorem qg5 (ts:TS) (ok:okTS ts) (n:Nd) (l:List (Option Kd)) (L:List RS) (e1:n.op≠1) (e15:n.op≠15)
  (h1:n.op=5∨n.op=11∨n.op=12∨n.op=13→∃ a,l=[some a]∧L=[qA a]∧okKd ts.sorts.length a)
  (h2:n.op=6∨n.op=14∨n.op=7∨n.op=8∨n.op=32∨n.op=33∨n.op=9∨n.op=10→∃ a b,l=[some a,some b]∧L=[qA a,qA b]∧okKd ts.sorts.length a∧okKd ts.sorts.length b) :
  ∃ S b,prC ts n L S b∧ApE n.op (yB ts.sorts.length n.op n.n n.pos l) S b:=by
 have hns:=ok.ns;by_cases o2:n.op=2
 ·refine ⟨qA ⟨n.n,[]⟩,true,gG (gB n.n) (ap2 ts n L o2),?_⟩
  unfold yB;rw [if_pos o2];exact ⟨rfl,fun _=>⟨_,rfl,rfl⟩⟩
 by_cases o3:n.op=3
 ·refine ⟨_,true,ap3 ts ok n L o3,?_⟩
  unfold yB;rw [if_neg o2,if_pos o3];exact ⟨rfl,fun _=>⟨_,rfl,rfl⟩⟩
 by_cases o4:n.op=4
 ·refine ⟨_,true,ap4 ts ok n L o4,?_⟩
  unfold yB;rw [if_neg o2,if_neg o3,if_pos o4];exact ⟨rfl,fun _=>⟨_,rfl,rfl⟩⟩
 by_cases g1:n.op=5∨n.op=11∨n.op=12∨n.op=13
 ·obtain ⟨a,rfl,rfl,ha⟩:=h1 g1
  rw [apK1,if_neg o2,if_neg o3,if_neg o4];by_cases o5:n.op=5
  ·rw [if_pos o5]
   exact ⟨_,true,ap5 ts n _ o5,rfl,fun _=>⟨_,rfl,rfl⟩⟩
  have g:n.op=11∨n.op=12∨n.op=13:=by omega
  rw [if_neg o5,if_pos g];obtain ⟨S,hc,hS⟩:=qg4 ok ha g;refine ⟨S,_,hc,?_⟩;by_cases har:a.ar=2
  ·rw [if_pos har]
   exact ⟨decide_eq_true har,fun _=>⟨_,rfl,hS har⟩⟩
  ·rw [if_neg har]
   exact decide_eq_false har
 by_cases g2:n.op=6∨n.op=14∨n.op=7∨n.op=8∨n.op=32∨n.op=33∨n.op=9∨n.op=10
 ·obtain ⟨a,b,rfl,rfl,ha,hb⟩:=h2 g2
  have ra:=ha.ar;have rb:=hb.ar;rw [apK2,if_neg o2,if_neg o3,if_neg o4];by_cases g3:n.op=6∨n.op=14∨n.op=7∨n.op=8∨n.op=32∨n.op=33
  ·rw [if_pos g3]
   obtain ⟨S,hc,hS⟩:=qg3 (ts:=ts) (n:=n) (a:=a) (b:=b) g3;refine ⟨S,_,hc,?_⟩;by_cases har:a.ar=b.ar
   ·rw [if_pos har]
    exact ⟨decide_eq_true har,fun hk=>⟨_,rfl,hS har hk⟩⟩
   ·rw [if_neg har]
    exact decide_eq_false har
  rw [if_neg g3];by_cases o9:n.op=9
  ·rw [if_pos o9]
   by_cases har:1≤a.ar+b.ar-2∧a.ar+b.ar-2≤3
   ·rw [if_pos har]
    refine ⟨_,_,ap9 ts n _ _ (qA (zO a b)) o9 (by show 0≤a.ar∧a.ar≤1000;omega) (by show 0≤b.ar∧b.ar≤1000;omega) ?_,decide_eq_true har,fun _=>⟨_,rfl,rfl⟩⟩;rw [←gj ha hb hns har];exact wX _ _ (by show 0≤a.ar∧a.ar≤1000;omega) (by show 1≤b.ar∧b.ar≤1000;omega)
   ·rw [if_neg har]
    exact ⟨_,_,ap9 ts n _ _ _ o9 (by show 0≤a.ar∧a.ar≤1000;omega) (by show 0≤b.ar∧b.ar≤1000;omega) (wX _ _ (by show 0≤a.ar∧a.ar≤1000;omega) (by show 1≤b.ar∧b.ar≤1000;omega)),decide_eq_false har⟩
  have o10:n.op=10:=by omega
  rw [if_neg o9,if_pos o10];by_cases har:a.ar+b.ar≤3
  ·rw [if_pos har]
   refine ⟨_,_,ap10 ts n _ _ (qA (wU a b)) o10 (by show 0≤a.ar∧a.ar≤1000;omega) (by show 0≤b.ar∧b.ar≤1000;omega) ?_,decide_eq_true har,fun _=>⟨_,rfl,rfl⟩⟩;rw [←qf4 ha hb hns har];exact p9 _ _ (by show 0≤a.ar∧a.ar≤1000;omega) (by show 0≤b.ar∧b.ar≤1000;omega)
  ·rw [if_neg har]
   exact ⟨_,_,ap10 ts n _ _ _ o10 (by show 0≤a.ar∧a.ar≤1000;omega) (by show 0≤b.ar∧b.ar≤1000;omega) (p9 _ _ (by show 0≤a.ar∧a.ar≤1000;omega) (by show 0≤b.ar∧b.ar≤1000;omega)),decide_eq_false har⟩
 refine ⟨zR,true,apO ts n L o2 o3 o4 (by omega) (by omega) (by omega) (by omega) (by omega) (by omega) (by omega) (by omega) (by omega) (by omega) (by omega) (by omega),?_⟩;rw [Wj o2 o3 o4 (by omega) (by omega) (by omega) (by omega) (by omega) (by omega) (by omega) (by omega) (by omega) (by omega) (by omega) (by omega)];refine ⟨rfl,fun hk=>?_⟩;have:=Wl hk;omega
theorem gH {ns:Nat} (hns:ns≤4) {q:Kd} (h:okKd ns q) (h1:q.ar=1) (i:Int):v8 i q=true↔∀ k:Nat,k<4→(qA q).2 k=true→(k:Int)=i:=by
 unfold v8;rw [List.all_eq_true];constructor
 ·intro ha k hk hs
  rw [yw,h1] at hs;have:=ha _ hs.2;simpa [dig,pad] using this
 ·intro ha t ht
  obtain ⟨j,hj,e⟩:=Qm h hns ht;rw [h1] at hj e;have hj4:j<4:=hj;have:=ha j hj4 ((yw q j).2 ⟨by rw [h1];exact hj4,by rw [h1,←e];exact ht⟩);rw [e];simp [dig,pad,this]
def ExR (c:Ck) (s:Scp) (inn:Bool) (n:Nd):Prop:=∃ S:RS,qt Tryz.prog 46 [eVw c inn,lVr (envS s),eNd n] (.tup [eRS S,eDg (dgOf (exam c s inn n))])∧(kd n.op=101→∀ q,exam c s inn n = .ok (some q)→S=qA q)
theorem gI (c:Ck) (inn:Bool):HF (eVw c inn):=HF.agg fun x hx=>by
 simp only [qK,zb,or_false] at hx;rcases hx with rfl | rfl | rfl | rfl | rfl | rfl | rfl
 ·exact w6 _
 ·exact w7 _
 ·exact ua _
 ·exact Zn _
 ·exact Jf _
 ·exact HF.sc _
 ·exact HF.sc _
theorem wkE (c:Ck) (inn:Bool) (l:List Vr) (n:Nd):WKs [eVw c inn,lVr l,eNd n] [eVw c inn,lVr l,eNd n] := .cons (.hf (gI c inn)) (.cons (.hf (qgV _)) (.cons (.hf (qO n)) .nil))
theorem vG (d:Dg):HF (eDg d):=HF.agg fun x hx=>by
 simp only [qK,zb,or_false] at hx;rcases hx with rfl | rfl<;>exact HF.sc _
theorem gJ {c:Ck} {nm:ByteArray} {p:Nat} (hc:okCk c) (h:zJ c nm=some p):(c.ts.preds.any fun p=>decide (p.name=nm))=true:=by
 obtain ⟨_,hp⟩:=Qd hc h;unfold zJ at h;rw [List.findIdx?_eq_some_iff_getElem] at h;obtain ⟨hi,a1,_⟩:=h;simp only [List.getElem_take] at a1;exact List.any_eq_true.2 ⟨_,qJ hp,a1⟩
theorem qg6 {ts:TS} {nm:ByteArray} (h:zJ (mkCk ts ts.preds.length) nm=none):(ts.preds.any fun p=>decide (p.name=nm))=false:=by
 unfold zJ at h;rw [List.findIdx?_eq_none_iff] at h;rw [List.any_eq_false];intro p hp;have:p∈ts.preds.take ts.preds.length:=by rw [jC];exact hp
 have:=h p this;simpa using this
theorem gK {n:Nd} (hw:WfN n) (h:n.op=47):∀ k,k∈n.kids→kd k.op=101:=by
 have hsh:=hw.shape;have e:shp n.op n.kids.length=some (List.replicate (min n.kids.length 401) 101):=by
  unfold shp;rw [if_neg (by omega),if_neg (by omega),if_neg (by omega),if_neg (by omega),if_neg (by omega),if_neg (by omega),if_neg (by omega),if_pos h]
 rw [e] at hsh;simp only [Option.some.injEq] at hsh;intro k hk;have:kd k.op∈n.kids.map fun k=>kd k.op:=qE.2 ⟨k,hk,rfl⟩
 rw [←hsh] at this;exact List.eq_of_mem_replicate this
theorem qg7 (c:Ck) (hc:okCk c) (s:Scp) (hs:ScOk c.ts.sorts.length s) (n:Nd) (hw:WfN n) (hop:n.op=47) (ih:∀ k,k∈n.kids→ExR c s true k) (inn:Bool) :
  qt Tryz.prog 95 [eVw c inn,lVr (envS s),eNd n] (eDg (dgOf (ub c s n))):=by
 generalize hR:ub c s n=R;unfold ub at hR;refine qSQ Tryz.call95 Tryz.func95 rfl { mt:=[3] } ?_;have hnp:=hc.ts.np;have hkl:=hw.len;have hp1:=Je c hc n.name;have hp2:=Je (mkCk c.ts c.ts.preds.length) (vO hc.ts (qB _)) n.name;have hwp:∀ k:Int,WKs [eTS c.ts,aI k,aS n.name] [eTS c.ts,aI k,aS n.name]:=fun k => .cons (.hf (zq _)) (.cons (.hf (HF.sc _)) (.cons (.hf (HF.sc _)) .nil))
 simp [go_sem];refine qc.pure hp1 (hwp _) ?_;cases hcal:zJ c n.name with
 |none =>
  rw [hcal] at hR;simp [go_sem,idxO];refine qc.pure hp2 (hwp _) ?_;cases hcal2:zJ (mkCk c.ts c.ts.preds.length) n.name with
  |none =>
   rw [qg6 hcal2] at hR;subst hR;simp [go_sem,idxO,dgOf];exact .hf _ (vG (40,n.pos))
  |some p =>
   have ha:(c.ts.preds.any fun p=>decide (p.name=n.name))=true:=gJ (c:=mkCk c.ts c.ts.preds.length) (vO hc.ts (qB _)) hcal2;rw [ha] at hR;subst hR;have hp0:¬(p:Int)<0:=by omega
   simp [go_sem,idxO,dgOf,hp0];exact .hf _ (vG (45,n.pos))
 |some p =>
  obtain ⟨_,hlt⟩:=Qd hc hcal;rw [gJ hc hcal,if_pos rfl,hcal] at hR;simp only [qX hlt] at hR;have hp0:¬(p:Int)<0:=by omega
  have hpd:=hc.ts.pl _ (qJ hlt);simp [go_sem,idxO,hlt,jt,hp0];generalize hpp:c.ts.preds[p]=pd at *
  by_cases hpl:pd.params.length=n.kids.length
  ·rw [if_pos hpl] at hR
   simp [go_sem,hpl];have hkd:=gK hw hop;refine qD.upK pd.params.length (fun k st=>st.tm 1=lVr (envS s)∧st.tm 3 = .ptr 0 0∧st.tm 5 = .ip (cNd n)∧st.tm 6 = .ptr 1 0∧st.tm 8=lPm pd.params∧st.tm 9=aI k∧st.mu[0]?=some (.arr (cVw c true))∧st.mu[1]?=some (.arr [aI 0,aI 0])∧yc c s n.pos (pd.params.drop k) (n.kids.drop k)=R) ?_ ?_
   ·exact ⟨by simp [go_sem],by simp [go_sem],by simp [go_sem],by simp [go_sem],by simp [go_sem],by simp [go_sem],by simp [go_sem],by simp [go_sem],by simpa using hR⟩
   rintro k st hk ⟨e1,e3,e5,e6,e8,e9,m0,m1,hE⟩;have hml:1<st.mu.length:=(qv.1 m1).1;have hpush:∀(l:List Cell) (i:Nat),i<st.mu.length→(st.mu++l)[i]?=st.mu[i]?:=fun l i hi=>qz hi
   have hset:∀ c,(st.mu.set 1 c)[1]?=some c:=fun c=>zd hml
   have hset2:∀ c (l:List Cell),((st.mu++l).set 1 c)[1]?=some c:=fun c l=>zd (by simp;omega)
   have hg0:∀(l:List Cell) (h:0<(st.mu++l).length),(st.mu++l)[0] = .arr (cVw c true):=fun l h=>by
    rw [nF (by omega)];exact (qv.1 m0).2
   have hg1:∀(l:List Cell) (h:1<(st.mu++l).length),(st.mu++l)[1] = .arr [aI 0,aI 0]:=fun l h=>by
    rw [nF (by omega)];exact (qv.1 m1).2
   by_cases hkl':k=pd.params.length
   ·subst hkl'
    rw [List.drop_length,hpl,List.drop_length] at hE;simp only [yc] at hE;subst hE;simp [go_sem,e1,e3,e5,e6,e8,e9,m0,m1,hpl,dgOf,hset];exact .hf _ (vG (0,0))
   have hlt1:k<pd.params.length:=by omega
   have hlt2:k<n.kids.length:=by omega
   have w1:IntKind.i64.wrap ((k:Int)+1)=(k:Int)+1:=qy (by omega) (by omega);obtain ⟨S,hi,hS⟩:=ih n.kids[k] (qJ hlt2);rw [zA hlt1,zA hlt2] at hE;simp only [yc] at hE;have hok:=vR hc (szN n.kids[k]) n.kids[k] s true;have hkk:=hkd n.kids[k] (qJ hlt2);have hwk':=hw.kid (qJ hlt2);simp [go_sem,e1,e3,e5,e6,e8,e9,m0,m1,hlt1,hlt2,qr];refine qx.move 11 1 (by kernel_rfl) (by kernel_rfl) ?_ ?_
   ·simp [go_sem,e1,e3,e5,e6,e8,e9,m0,m1,hlt1,hlt2,qr]
    refine qc.pure hi (wkE c true _ _) ?_;cases hx:exam c s true n.kids[k] with
    |error e =>
     rw [hx] at hE;subst hE;have he:=uz c (szN n.kids[k]) n.kids[k] s true e (qB _) hx;have he0:¬e.1=0:=by omega
     simp [go_sem,e1,e3,e5,e6,e8,e9,m0,m1,hlt1,hlt2,qm,QE.tk,pc,hpush,he0,dgOf];rw [if_pos (qV _)];generalize hP:putCells _ 0 (aI S.1 :: hB S.2)=P;have hP2:P=aI S.1 :: hB S.2:=by rw [←hP];exact pc (aI 0) _ (fun _=>false) _
     subst hP2;clear hP;simp [go_sem,e1,e3,e5,e6,e8,e9,m0,m1,hlt1,hlt2,qm,QE.tk,pc,hpush,he0,dgOf];simp [go_sem,hg1,hset2,e6];exact .hf _ (vG e)
    |ok ko =>
     obtain ⟨q,rfl,hq⟩:=hok ko (qB _) hwk' hs hx hkk;have hSq:=hS hkk q hx;subst hSq;rw [hx] at hE;simp only at hE;have hns:=hc.ts.ns;have haq:(qA q).1=q.ar:=rfl;have hag:=fun h=>gH hns hq h pd.params[k].2
     generalize qA q=Q at *
     simp [go_sem,e1,e3,e5,e6,e8,e9,m0,m1,hlt1,hlt2,qm,QE.tk,pc,hpush,dgOf];rw [if_pos (qV _)];generalize hP:putCells _ 0 (aI Q.1 :: hB Q.2)=P;have hP2:P=aI Q.1 :: hB Q.2:=by rw [←hP];exact pc (aI 0) _ (fun _=>false) _
     subst hP2;clear hP;by_cases har:q.ar=1
     ·rw [if_pos har] at hE
      have har':Q.1=1:=haq.trans har;simp [go_sem,e1,e3,e5,e6,e8,e9,m0,m1,hlt1,hlt2,qm,QE.tk,pc,hpush,dgOf,har'];have hfst:pd.params[k].2<4∧0≤pd.params[k].2:=by have:=hpd.2 _ (qJ hlt1);omega
      refine qD.upK 4 (fun j st'=>∃ b,2≤b∧st'.tm 10 = .ptr b 0∧st'.mu[b]?=some (.arr (aI 1 :: hB Q.2))∧st'.tm 1=lVr (envS s)∧st'.tm 3 = .ptr 0 0∧st'.tm 5 = .ip (cNd n)∧st'.tm 6 = .ptr 1 0∧st'.tm 8=lPm pd.params∧st'.tm 9=aI k∧st'.tm 12=aI j∧st'.mu[0]?=some (.arr (cVw c true))∧st'.mu[1]?=some (.arr [aI 0,aI 0]) ∧
       ∀ i:Nat,i<j→Q.2 i=true→(i:Int)=pd.params[k].2) ?_ ?_
      ·exact ⟨st.mu.length,by omega,by simp [go_sem],by simp [go_sem],by simp [go_sem,e1],by simp [go_sem,e3],by simp [go_sem,e5],by simp [go_sem,e6],by simp [go_sem,e8],by simp [go_sem,e9],by simp [go_sem],by simp only [qT];rw [hpush _ _ (by omega)];exact m0,by simp only [qT];rw [hpush _ _ (by omega)];exact m1,fun i hi=>by omega⟩
      ·clear e1 e3 e5 e6 e8 e9 m0 m1 hpush hset hset2 hg0 hg1 hml
       rintro j st2 hj ⟨b,hb,e10,mb,e1,e3,e5,e6,e8,e9,e12,m0,m1,hall⟩;have hml:1<st2.mu.length:=(qv.1 m1).1;have hset:∀ c,(st2.mu.set 1 c)[1]?=some c:=fun c=>zd hml
       by_cases hj4:j<4
       ·have hjl:(j:Int)<4:=by omega
        have hj64:j<64:=by omega
        have hj64':(j:Int)<64:=by omega
        have wj:IntKind.i64.wrap ((j:Int)+1)=(j:Int)+1:=qy (by omega) (by omega);have hd1:=d1 (aI 1) Q.2 j hj64;have hi1:1+j≤64:=by omega
        by_cases hQ:Q.2 j=true
        ·rw [hQ] at hd1
         by_cases hq2:(j:Int)=pd.params[k].2
         ·have hq3:=eq_true hq2
          simp [go_sem,e10,mb,e1,e3,e5,e6,e8,e9,e12,hjl,hj64,hj64',hd1,hi1,qm,hlt1,hq3,wj];refine ⟨hj4,Keep.mk' ⟨b,hb,by simp [go_sem,e10],by simp [go_sem,mb],by simp [go_sem,e1],by simp [go_sem,e3],by simp [go_sem,e5],by simp [go_sem,e6],by simp [go_sem,e8],by simp [go_sem,e9],by simp [go_sem],by simp [go_sem,m0],by simp [go_sem,m1],fun i hi h=>?_⟩⟩;by_cases hij:i=j
          ·subst hij;exact hq2
          ·exact hall i (by omega) h
         ·have hbad:¬v8 pd.params[k].2 q=true:=fun h=>hq2 ((hag har).1 h j hj4 hQ)
          rw [if_neg hbad] at hE;subst hE;simp [go_sem,e10,mb,e1,e3,e5,e6,e8,e9,e12,hjl,hj64,hj64',hd1,hi1,qm,hlt1,hq2,wj,m1,hset];exact .hf _ (vG (43,n.pos))
        ·have hQ:Q.2 j=false:=by simpa using hQ
         rw [hQ] at hd1;simp [go_sem,e10,mb,e1,e3,e5,e6,e8,e9,e12,hjl,hj64,hj64',hd1,hi1,qm,hlt1,wj];refine ⟨hj4,Keep.mk' ⟨b,hb,by simp [go_sem,e10],by simp [go_sem,mb],by simp [go_sem,e1],by simp [go_sem,e3],by simp [go_sem,e5],by simp [go_sem,e6],by simp [go_sem,e8],by simp [go_sem,e9],by simp [go_sem],by simp [go_sem,m0],by simp [go_sem,m1],fun i hi h=>?_⟩⟩;by_cases hij:i=j
         ·subst hij;rw [hQ] at h;cases h
         ·exact hall i (by omega) h
       ·have hje:j=4:=by omega
        subst hje;have hgood:v8 pd.params[k].2 q=true:=(hag har).2 fun i hi h=>hall i hi h
        rw [if_pos hgood] at hE;simp [go_sem,e10,mb,e1,e3,e5,e6,e8,e9,e12,w1];exact ⟨hlt1,Keep.mk' ⟨by simp [go_sem,e1],by simp [go_sem,e3],by simp [go_sem,e5],by simp [go_sem,e6],by simp [go_sem,e8],by simp [go_sem],by simp [go_sem,m0],by simp [go_sem,m1],hE⟩⟩
     ·rw [if_neg har] at hE
      subst hE;have har':¬Q.1=1:=fun e=>har (haq.symm.trans e)
      simp [go_sem,e1,e3,e5,e6,e8,e9,m0,m1,hlt1,hlt2,qm,QE.tk,pc,hpush,dgOf,har',hg1,hset2,e6];exact .hf _ (vG (42,n.pos))
   ·simp [go_sem,e1,e3,e5,e6,e8,e9,m0,m1,hlt1,hlt2,qr]
    refine qc.pure hi (wkE c true _ _) ?_;cases hx:exam c s true n.kids[k] with
    |error e =>
     rw [hx] at hE;subst hE;have he:=uz c (szN n.kids[k]) n.kids[k] s true e (qB _) hx;have he0:¬e.1=0:=by omega
     simp [go_sem,e1,e3,e5,e6,e8,e9,m0,m1,hlt1,hlt2,qm,QE.tk,pc,hpush,he0,dgOf];rw [if_pos (qV _)];generalize hP:putCells _ 0 (aI S.1 :: hB S.2)=P;have hP2:P=aI S.1 :: hB S.2:=by rw [←hP];exact pc (aI 0) _ (fun _=>false) _
     subst hP2;clear hP;simp [go_sem,e1,e3,e5,e6,e8,e9,m0,m1,hlt1,hlt2,qm,QE.tk,pc,hpush,he0,dgOf];simp [go_sem,hg1,hset2,e6];exact .hf _ (vG e)
    |ok ko =>
     obtain ⟨q,rfl,hq⟩:=hok ko (qB _) hwk' hs hx hkk;have hSq:=hS hkk q hx;subst hSq;rw [hx] at hE;simp only at hE;have hns:=hc.ts.ns;have haq:(qA q).1=q.ar:=rfl;have hag:=fun h=>gH hns hq h pd.params[k].2
     generalize qA q=Q at *
     simp [go_sem,e1,e3,e5,e6,e8,e9,m0,m1,hlt1,hlt2,qm,QE.tk,pc,hpush,dgOf];rw [if_pos (qV _)];generalize hP:putCells _ 0 (aI Q.1 :: hB Q.2)=P;have hP2:P=aI Q.1 :: hB Q.2:=by rw [←hP];exact pc (aI 0) _ (fun _=>false) _
     subst hP2;clear hP;by_cases har:q.ar=1
     ·rw [if_pos har] at hE
      have har':Q.1=1:=haq.trans har;simp [go_sem,e1,e3,e5,e6,e8,e9,m0,m1,hlt1,hlt2,qm,QE.tk,pc,hpush,dgOf,har'];have hfst:pd.params[k].2<4∧0≤pd.params[k].2:=by have:=hpd.2 _ (qJ hlt1);omega
      refine qD.upK 4 (fun j st'=>∃ b,2≤b∧st'.tm 10 = .ptr b 0∧st'.mu[b]?=some (.arr (aI 1 :: hB Q.2))∧st'.tm 1=lVr (envS s)∧st'.tm 3 = .ptr 0 0∧st'.tm 5 = .ip (cNd n)∧st'.tm 6 = .ptr 1 0∧st'.tm 8=lPm pd.params∧st'.tm 9=aI k∧st'.tm 12=aI j∧st'.mu[0]?=some (.arr (cVw c true))∧st'.mu[1]?=some (.arr [aI 0,aI 0]) ∧
       ∀ i:Nat,i<j→Q.2 i=true→(i:Int)=pd.params[k].2) ?_ ?_
      ·exact ⟨st.mu.length+1,by omega,by simp [go_sem],by simp [go_sem],by simp [go_sem,e1],by simp [go_sem,e3],by simp [go_sem,e5],by simp [go_sem,e6],by simp [go_sem,e8],by simp [go_sem,e9],by simp [go_sem],by simp only [qT];rw [hpush _ _ (by omega)];exact m0,by simp only [qT];rw [hpush _ _ (by omega)];exact m1,fun i hi=>by omega⟩
      ·clear e1 e3 e5 e6 e8 e9 m0 m1 hpush hset hset2 hg0 hg1 hml
       rintro j st2 hj ⟨b,hb,e10,mb,e1,e3,e5,e6,e8,e9,e12,m0,m1,hall⟩;have hml:1<st2.mu.length:=(qv.1 m1).1;have hset:∀ c,(st2.mu.set 1 c)[1]?=some c:=fun c=>zd hml
       by_cases hj4:j<4
       ·have hjl:(j:Int)<4:=by omega
        have hj64:j<64:=by omega
        have hj64':(j:Int)<64:=by omega
        have wj:IntKind.i64.wrap ((j:Int)+1)=(j:Int)+1:=qy (by omega) (by omega);have hd1:=d1 (aI 1) Q.2 j hj64;have hi1:1+j≤64:=by omega
        by_cases hQ:Q.2 j=true
        ·rw [hQ] at hd1
         by_cases hq2:(j:Int)=pd.params[k].2
         ·have hq3:=eq_true hq2
          simp [go_sem,e10,mb,e1,e3,e5,e6,e8,e9,e12,hjl,hj64,hj64',hd1,hi1,qm,hlt1,hq3,wj];refine ⟨hj4,Keep.mk' ⟨b,hb,by simp [go_sem,e10],by simp [go_sem,mb],by simp [go_sem,e1],by simp [go_sem,e3],by simp [go_sem,e5],by simp [go_sem,e6],by simp [go_sem,e8],by simp [go_sem,e9],by simp [go_sem],by simp [go_sem,m0],by simp [go_sem,m1],fun i hi h=>?_⟩⟩;by_cases hij:i=j
          ·subst hij;exact hq2
          ·exact hall i (by omega) h
         ·have hbad:¬v8 pd.params[k].2 q=true:=fun h=>hq2 ((hag har).1 h j hj4 hQ)
          rw [if_neg hbad] at hE;subst hE;simp [go_sem,e10,mb,e1,e3,e5,e6,e8,e9,e12,hjl,hj64,hj64',hd1,hi1,qm,hlt1,hq2,wj,m1,hset];exact .hf _ (vG (43,n.pos))
        ·have hQ:Q.2 j=false:=by simpa using hQ
         rw [hQ] at hd1;simp [go_sem,e10,mb,e1,e3,e5,e6,e8,e9,e12,hjl,hj64,hj64',hd1,hi1,qm,hlt1,wj];refine ⟨hj4,Keep.mk' ⟨b,hb,by simp [go_sem,e10],by simp [go_sem,mb],by simp [go_sem,e1],by simp [go_sem,e3],by simp [go_sem,e5],by simp [go_sem,e6],by simp [go_sem,e8],by simp [go_sem,e9],by simp [go_sem],by simp [go_sem,m0],by simp [go_sem,m1],fun i hi h=>?_⟩⟩;by_cases hij:i=j
         ·subst hij;rw [hQ] at h;cases h
         ·exact hall i (by omega) h
       ·have hje:j=4:=by omega
        subst hje;have hgood:v8 pd.params[k].2 q=true:=(hag har).2 fun i hi h=>hall i hi h
        rw [if_pos hgood] at hE;simp [go_sem,e10,mb,e1,e3,e5,e6,e8,e9,e12,w1];exact ⟨hlt1,Keep.mk' ⟨by simp [go_sem,e1],by simp [go_sem,e3],by simp [go_sem,e5],by simp [go_sem,e6],by simp [go_sem,e8],by simp [go_sem],by simp [go_sem,m0],by simp [go_sem,m1],hE⟩⟩
     ·rw [if_neg har] at hE
      subst hE;have har':¬Q.1=1:=fun e=>har (haq.symm.trans e)
      simp [go_sem,e1,e3,e5,e6,e8,e9,m0,m1,hlt1,hlt2,qm,QE.tk,pc,hpush,dgOf,har',hg1,hset2,e6];exact .hf _ (vG (42,n.pos))
  ·rw [if_neg hpl] at hR
   subst hR;have hpl':¬n.kids.length=pd.params.length:=fun e=>hpl e.symm
   simp [go_sem,hpl',dgOf];exact .hf _ (vG (45,n.pos))
end Go.Proofs.YtcfopdccdeeleaaGreatDoor.QO


namespace Go.Proofs.YtcfopdccdeeleaaGreatDoor.QR
open Go Go.Ev Go.Proofs Go.Proofs.YtcfopdccdeeleaaGreatDoor YM YF Y9 Y10 Y1 Y2 Y3 Y12 Y13 P1 P2 PA PB QD QE QF QG QH QI QJ QK QL QM QN PG QO
theorem W8 {n:Nd} (hw:WfN n) (h:n.op=15∨n.op=45∨n.op=46):∃ a f,n.kids=[a,f]∧kd a.op=101:=by
 have hs:=hw.shape;unfold shp at hs;rw [if_neg (by omega),if_neg (by omega),if_neg (by omega),if_pos (by omega)] at hs;simp only [Option.some.injEq] at hs
 match hk:n.kids,hs with
 | [a,f],hs =>
  simp at hs;exact ⟨a,f,rfl,hs.1.symm⟩
 | [],hs=>simp at hs
 | [_],hs=>simp at hs
 |_ :: _ :: _ :: _,hs=>simp at hs
theorem five {α:Type} {l:List α} {a b c d e:α} (h0:l[0]?=some a) (h1:l[1]?=some b) (h2:l[2]?=some c) (h3:l[3]?=some d) (h4:l[4]?=some e):∃ r,l=a :: b :: c :: d :: e :: r:=by
 match l,h0,h1,h2,h3,h4 with
 |_ :: _ :: _ :: _ :: _ :: r,h0,h1,h2,h3,h4 =>
  simp at h0 h1 h2 h3 h4;exact ⟨r,by rw [h0,h1,h2,h3,h4]⟩
def Jj:Res→RS
 | .ok (some k)=>if k.ar=1 then qA k else zR
 |_=>zR
theorem qg8 (s:RS) (d:Dg):FL (.tup [eRS s,eDg d]):=FL.tup fun x hx=>by
 rcases qK.1 hx with rfl | hx
 ·exact FL.agg fun c hc=>by
   rcases qK.1 hc with rfl | hc
   ·exact FL.sc _
   ·obtain ⟨j,_,rfl⟩:=qE.1 hc
    exact FL.sc _
 ·rw [zj] at hx;subst hx
  exact FL.agg fun c hc=>by
   rcases qK.1 hc with rfl | hc
   ·exact FL.sc _
   ·rw [zj] at hc;subst hc;exact FL.sc _
theorem qg9 (c:Ck) (hc:okCk c) (s:Scp) (hs:ScOk c.ts.sorts.length s) (hsl:s.length≤90000) (n a g:Nd) (hw:WfN n) (hb:n.op=15∨n.op=45∨n.op=46) (hks:n.kids=[a,g]) (hka:kd a.op=101) (inn:Bool)
  (iha:ExR c s (inn||decide (n.op=15)) a) (ihg:∀ k,okKd c.ts.sorts.length k→k.ar=1→ExR c ((n.name,k) :: s) (inn||decide (n.op=15)) g) :
  qt Tryz.prog 96 [eVw c inn,lVr (envS s),eNd n] (.tup [eRS (Jj (exam c s (inn||decide (n.op=15)) a)),eDg (dgOf (yU c s (inn||decide (n.op=15)) n.name n.pos n.kids))]):=by
 have wa:=hw.kid (k:=a) (by rw [hks];simp);obtain ⟨S,ca,hS⟩:=iha;have hok:=vR hc (szN a) a s (inn||decide (n.op=15));have herr:=uz c (szN a) a s (inn||decide (n.op=15));rw [hks];have w1:=wkE c (inn||decide (n.op=15)) (envS s) a;have hB2:n.op=15→(inn||decide (n.op=15))=true:=fun h=>by simp [h]
 have hB3:¬n.op=15→(inn||decide (n.op=15))=inn:=fun h=>by simp [h]
 generalize (inn||decide (n.op=15))=B at *
 generalize hE:dgOf (yU c s B n.name n.pos [a,g])=E;generalize hX:exam c s B a=X at *
 have ihg2:∀ k,okKd c.ts.sorts.length k→k.ar=1→X = .ok (some k)→∃ S2,qt Tryz.prog 46 [eVw c B,lVr (envS ((n.name,k) :: s)),eNd g] (.tup [eRS S2,eDg E]):=fun k hk har hXk=>by
  obtain ⟨S2,cg,_⟩:=ihg k hk har;refine ⟨S2,?_⟩;have hEe:E=dgOf (exam c ((n.name,k) :: s) B g):=by
   rw [←hE];simp only [yU,zB];rw [hX,hXk];simp only;rw [if_pos har];cases exam c ((n.name,k) :: s) B g<;>rfl
  rw [hEe];exact cg
 refine qSQ Tryz.call96 Tryz.func96 rfl { mt:=[3] } ?_;by_cases h15:n.op=15
 case' pos =>
  have hBt:=hB2 h15;subst hBt
 case' neg =>
  have hBt:=hB3 h15;subst hBt
 all_goals
  simp [go_sem,h15,hks,qr];refine qx.seg [0,1,2,3,4,5,6,7,8,9,10,11,12,13] [(0,0,[]),(1,0,[]),(2,0,[]),(3,0,[]),(4,0,[]),(5,0,[]),(6,1,[]),(7,0,[]),(8,0,[]),(9,0,[]),(10,2,[0,3,5]),(11,2,[0,3,5]),(12,1,[]),(13,1,[])] (by kernel_rfl) (by kernel_rfl) (by simp [go_sem]) ?_;simp [go_sem,h15,hks,qr];refine qc.pure ca w1 ?_;simp [go_sem,qm,tk,pc,hks,qr];rw [if_pos (qV _)];generalize hP:putCells _ 0 (aI S.1 :: hB S.2)=P;have hP2:P=aI S.1 :: hB S.2:=by rw [←hP];exact pc (aI 0) _ (fun _=>false) _
  subst hP2;clear hP;simp [go_sem,qm,tk,pc]
 all_goals
  cases X with
  |error e =>
   have he:=herr e (qB _) rfl;have he0:¬e.1=0:=by omega
   have hEe:E=e:=by rw [←hE];simp only [yU];rw [hX];rfl
   subst hEe;clear hE;simp [go_sem,dgOf,he0];refine qx.float [] [0,1] [(2,true),(3,false)] (by kernel_rfl) (by kernel_rfl) (by kernel_rfl) ?_;simp [go_sem,dgOf,he0];exact .hf _ (yg zR E)
  |ok ko =>
   obtain ⟨q,rfl,hq⟩:=hok ko (qB _) wa hs rfl hka;have hSq:=hS hka q rfl;subst hSq;have haq:(qA q).1=q.ar:=rfl;by_cases har:q.ar=1
   ·have har':(qA q).1=1:=haq.trans har
    obtain ⟨S2,cg⟩:=ihg2 q hq har rfl;have hbs:Jj (.ok (some q))=qA q:=if_pos har;rw [hbs];have henv:envS ((n.name,q) :: s)=envS s++[(n.name,qA q)]:=by simp [envS]
    rw [henv] at cg;generalize qA q=Q at *
    obtain ⟨qa,qf⟩:=Q;have har'':qa=1:=har';subst har'';simp [go_sem,dgOf];refine qx.seg [0,1,2,4,5,6,7,8,10,11,12,13,3,9,14,15,16,17,18,19,20,21] [(0,0,[]),(1,0,[]),(2,0,[]),(4,0,[]),(5,0,[]),(6,0,[]),(7,0,[]),(8,0,[]),(10,0,[]),(11,0,[]),(12,0,[]),(13,0,[]),(3,1,[0,5,6,11,13]),(9,1,[0,11,13]),(14,1,[]),(15,0,[]),(16,0,[]),(17,0,[]),(18,2,[0,5,6,11,13]),(19,2,[0,5,6,11,13]),(20,1,[]),(21,1,[])] (by kernel_rfl) (by kernel_rfl) (by simp [go_sem]) ?_;simp [go_sem,dgOf,qm,tk,pc,hks,qr];rw [if_pos (qV _)];generalize hC:putCells _ 1 _=C;have hC2:C=cVr (n.name,(1,qf)):=by rw [←hC];exact pcV n.name (1,qf)
    subst hC2;clear hC;have hcl:(cVr (n.name,((1:Int),qf))).length=66:=by simp [qm]
    have hco:=WZ (n.name,((1:Int),qf));generalize hV:cVr (n.name,((1:Int),qf))=V at *
    simp [go_sem,dgOf,qm,tk,pc,hks,qr,hcl];rw [if_pos hco];simp [go_sem,dgOf,qm,tk,pc,hks,qr,hcl];refine W3 (lo:=5) (xs:=[]) (ys:=envS s) (OwnF.nil (by simp)) (by simp [zf]) (by simp [Ji];omega) fun av1 m1 ho1 hm1=>?_
    have k0:=hm1 0 (by omega);have k1:=hm1 1 (by omega);have k2:=hm1 2 (by omega);have k3:=hm1 3 (by omega);have k4:=hm1 4 (by omega);simp at k0 k1 k2 k3 k4;simp [go_sem,dgOf,qm,tk,pc,hks,qr,k0,k1,k2,k3,k4];refine W3 (xs:=[]++envS s) (ys:=[(n.name,(1,qf))]) ho1 (by simp [zf,hV]) (by simp [Ji];omega) fun av2 m2 ho2 hm2=>?_
    rw [List.nil_append] at ho2;have hml:=ho2.2.2;replace k0:=(hm2 0 (by omega)).trans k0;replace k1:=(hm2 1 (by omega)).trans k1;replace k2:=(hm2 2 (by omega)).trans k2;replace k3:=(hm2 3 (by omega)).trans k3;replace k4:=(hm2 4 (by omega)).trans k4;have hpush:∀(l:List Cell) (i:Nat),i<m2.length→(m2++l)[i]?=m2[i]?:=fun l i hi=>qz hi
    have g0:=(qv.1 k0).2;have g1:=(qv.1 k1).2;have g2:=(qv.1 k2).2;have g3:=(qv.1 k3).2;simp [go_sem,dgOf,qm,tk,pc,hks,qr,k0,k1,k2,k3,k4];refine qc.lend (args':=[eVw c _,lVr (envS s++[(n.name,(1,qf))]),eNd g]) cg ⟨.hf _ (gI c _),rdVr ho2,.hf _ (qO g),trivial⟩ (qg8 S2 _) ?_;have p0:=fun l=>(hpush l 0 (by omega)).trans k0
    have p1:=fun l=>(hpush l 1 (by omega)).trans k1
    have p2:=fun l=>(hpush l 2 (by omega)).trans k2
    have p3:=fun l=>(hpush l 3 (by omega)).trans k3
    have p4:=fun l=>(hpush l 4 (by omega)).trans k4
    have hl0:0<m2.length:=by omega
    have hl3:3<m2.length:=by omega
    simp [go_sem,dgOf,qm,tk,pc,hks,qr,k0,k1,k2,k3,k4,g0,g1,g2,g3,hl0,hl3,p0,p1,p2,p3,p4];rw [if_pos (qV _)];generalize hP:putCells _ 0 (cRS S2)=P;have hP2:P=cRS S2:=by rw [←hP];exact pc (aI 0) _ (fun _=>false) _
    subst hP2;clear hP;simp [go_sem,dgOf,qm,tk,pc,hks,qr,k0,k1,k2,k3,k4,g0,g1,g2,g3,hl0,hl3,p0,p1,p2,p3,p4];obtain ⟨rr,hrr⟩:=five k0 k1 k2 k3 k4;have hrl:m2.length=rr.length+5:=by rw [hrr];rfl
    clear g0 g1 g2 g3 p0 p1 p2 p3 p4 hpush ho2 hm2 k0 k1 k2 k3 k4 hml hl0 hl3;refine qx.seg [0,1,2,3] [(0,0,[]),(1,0,[]),(2,1,[1]),(3,1,[])] (by kernel_rfl) (by kernel_rfl) (by simp [go_sem]) ?_;simp [go_sem,dgOf,qm,tk,pc,hks,qr,hrr];rw [if_pos (qV _)];generalize hP:putCells _ 0 (aI 1 :: hB qf)=P;have hP2:P=aI 1 :: hB qf:=by rw [←hP];exact pc (aI 0) (aI 1) (fun _=>false) qf
    subst hP2;clear hP;simp [go_sem,dgOf,qm,tk,pc,hks,qr,hrr];exact .hf _ (yg (1,qf) E)
   ·have har':¬(qA q).1=1:=fun e=>har (haq.symm.trans e)
    have hbs:Jj (.ok (some q))=zR:=if_neg har;rw [hbs];have hEe:E=(42,n.pos):=by
     rw [←hE];simp only [yU];rw [hX];simp only;rw [if_neg har];rfl
    subst hEe;clear hE;generalize qA q=Q at *
    simp [go_sem,dgOf,har'];refine qx.float [] [0,1,2,3] [(4,true),(5,false)] (by kernel_rfl) (by kernel_rfl) (by kernel_rfl) ?_;simp [go_sem,dgOf];exact .hf _ (yg zR (42,n.pos))
theorem qhA (ts:TS) (ok:okTS ts) (n:Nd) (l:List (Option Kd)) (e1:n.op≠1) (e15:n.op≠15)
  (h1:n.op=5∨n.op=11∨n.op=12∨n.op=13→∃ a,l=[some a]∧okKd ts.sorts.length a)
  (h2:n.op=6∨n.op=14∨n.op=7∨n.op=8∨n.op=32∨n.op=33∨n.op=9∨n.op=10→∃ a b,l=[some a,some b]∧okKd ts.sorts.length a∧okKd ts.sorts.length b) :
  ∃ S b,(∀ L:List RS,((n.op=5∨n.op=11∨n.op=12∨n.op=13)∨(n.op=6∨n.op=14∨n.op=7∨n.op=8∨n.op=32∨n.op=33∨n.op=9∨n.op=10)→L=l.map setO)→prC ts n L S b)∧ApE n.op (yB ts.sorts.length n.op n.n n.pos l) S b:=by
 by_cases hr:(n.op=5∨n.op=11∨n.op=12∨n.op=13)∨(n.op=6∨n.op=14∨n.op=7∨n.op=8∨n.op=32∨n.op=33∨n.op=9∨n.op=10)
 ·obtain ⟨S,b,c,a⟩:=qg5 ts ok n l (l.map setO) e1 e15 (fun h=>by obtain ⟨a,rfl,ha⟩:=h1 h;exact ⟨a,rfl,rfl,ha⟩) (fun h=>by obtain ⟨a,b,rfl,ha,hb⟩:=h2 h;exact ⟨a,b,rfl,rfl,ha,hb⟩)
  exact ⟨S,b,fun L hL=>by rw [hL hr];exact c,a⟩
 by_cases o2:n.op=2
 ·refine ⟨qA ⟨n.n,[]⟩,true,fun L _=>gG (gB n.n) (ap2 ts n L o2),?_⟩
  unfold yB;rw [if_pos o2];exact ⟨rfl,fun _=>⟨_,rfl,rfl⟩⟩
 by_cases o3:n.op=3
 ·refine ⟨_,true,fun L _=>ap3 ts ok n L o3,?_⟩
  unfold yB;rw [if_neg o2,if_pos o3];exact ⟨rfl,fun _=>⟨_,rfl,rfl⟩⟩
 by_cases o4:n.op=4
 ·refine ⟨_,true,fun L _=>ap4 ts ok n L o4,?_⟩
  unfold yB;rw [if_neg o2,if_neg o3,if_pos o4];exact ⟨rfl,fun _=>⟨_,rfl,rfl⟩⟩
 refine ⟨zR,true,fun L _=>apO ts n L o2 o3 o4 (by omega) (by omega) (by omega) (by omega) (by omega) (by omega) (by omega) (by omega) (by omega) (by omega) (by omega) (by omega),?_⟩;rw [Wj o2 o3 o4 (by omega) (by omega) (by omega) (by omega) (by omega) (by omega) (by omega) (by omega) (by omega) (by omega) (by omega) (by omega)];refine ⟨rfl,fun hk=>?_⟩;have:=Wl hk;omega
def resS:Res→RS
 | .ok (some k)=>qA k
 |_=>zR
theorem qhB (R:Res):endR zR R = .tup [eRS (resS R),eDg (dgOf R)]:=by
 cases R with
 |error e=>rfl
 |ok k=>cases k<;>rfl
end Go.Proofs.YtcfopdccdeeleaaGreatDoor.QR
