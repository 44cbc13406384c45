/-
  Own library, part 7: an abstract reading of values and a calculus over it; contracts of functions; plain lemmas.
-/
import Derived.Test.YtkglmpmlfjogkaaGreatDoorRows
import Derived.LaidMore
import Derived.MakeChecks
import Derived.WalkKit
import Derived.JoinedCond
import Derived.Test.YtkglmpmlfjogkaaGreatDoorTie
import Derived.Test.YtkglmpmlfjogkaaGreatDoorCards
import Derived.SevenTiedAt
import Derived.Test.YtkglmpmlfjogkaaGreatDoorMf
set_option linter.unusedVariables false
set_option linter.unusedSimpArgs false
set_option maxRecDepth 100000


open List renaming getElem?_eq_some_iff→qh,getElem?_append_left→qm,mem_map→qn,getElem?_eq_getElem→qq,getElem_mem→qr,mem_cons→qv,mem_singleton→qK,getElem?_append_right→qP,getElem?_set_self→qR,getElem?_map→qW,drop_eq_getElem_cons→qX,not_mem_nil→q9,length_append→za,take_length→zb,append_nil→zc,append_assoc→zf,getElem?_eq_none→zu,mem_cons_of_mem→zx,take_of_length_le→zC,mem_cons_self→zU,length_map→yj,take_succ_eq_append_getElem→UN,getElem_append_left→UO
open Nat renaming le_refl→qo,le_trans→zj
namespace Go.Proofs.YtkglmpmlfjogkaaGreatDoor.QN
open Go Go.Ev Go.Proofs Go.Proofs.YtkglmpmlfjogkaaGreatDoor Y1 Y2 Y3 YM YF Y9 Y10 Y12 P1 P2 PA PB QD QE QF QG QH QI QJ QK QL QM
def setO:Option Kd→RS
 |some k=>ql k
 |none=>zR
abbrev lRS (l:List RS):AV := .lst false (l.map cRS)
theorem qeW (v:RS):∀ c,c∈cRS v→HF c:=fun c hc=>((setC v).sc c hc).2
theorem qeX (v:RS):∀ c,c∈cRS v→c.one=true:=fun c hc=>((setC v).sc c hc).1
theorem UI (l:List RS):qY 65 (l.map cRS):=fun r hr=>by
 obtain ⟨v,_,rfl⟩:=qn.1 hr;exact ⟨by simp [hB],List.all_eq_true.2 (qeX v)⟩
theorem w6 {mu:Mu} {lo:Nat} {s x:AV} {xs ys:List RS} {K:AV→Mu→Prop} (ho:OwnF lo mu 65 s (xs.map cRS)) (hx:qE mu x=some (ys.map cRS)) (hl:xs.length+ys.length≤100000) (kk:∀ av mu',OwnF lo mu' 65 av ((xs++ys).map cRS)→(∀ i,i<lo→mu'[i]?=mu[i]?)→K av mu') :
  qz Tryz.prog mu #[274,274] s x K:=by
 refine qz.ownF (lo:=lo) (e:=203) (sz:=65) (bt:=72) (zv := .agg (aI 0 :: zs)) (xs:=xs.map cRS) (ys:=ys.map cRS) (by simp [go_sem]) (by simp [go_sem]) (by simp [go_sem];rfl) rfl rfl (by omega) (by omega) ho hx (UI xs) (UI ys) (by simp;omega) ?_;intro av mu' h h2;exact kk av mu' (by rw [List.map_append];exact h) h2
theorem rdRS {lo:Nat} {mu:Mu} {av:AV} {l:List RS} (ho:OwnF lo mu 65 av (l.map cRS)):Rd mu av (lRS l):=
 Own.rd (sz:=65) ho.1 (UI l).ok fun r hr c hc=>by
  obtain ⟨v,_,rfl⟩:=qn.1 hr;exact qeW v c hc
theorem yF (s:RS) (b:Bool):HF (.tup [eRS s,aB b]):=HF.tup fun x hx=>by
 rcases qv.1 hx with rfl | hx
 ·exact zG s
 ·rw [qK] at hx;subst hx;exact HF.sc _
def ApE (op:Int):Res→RS→Bool→Prop
 | .ok k,S,b=>b=true∧(kd op=101→∃ q,k=some q∧S=ql q)
 | .error _,S,b=>b=false
theorem wkS1 (a:RS):WKs [eRS a] [eRS a] := .cons (.hf (zG _)) .nil
theorem wkS2 (a b:RS):WKs [eRS a,eRS b] [eRS a,eRS b] := .cons (.hf (zG _)) (.cons (.hf (zG _)) .nil)
theorem wkTI (ts:TS) (k:Int):WKs [eTS ts,aI k] [eTS ts,aI k] := .cons (.hf (ze _)) (.cons (.hf (HF.sc _)) .nil)
theorem kR (n:Int):eRS (n,fun _=>false)=eRS (ql ⟨n,[]⟩):=vW rfl fun j _=>(decide_eq_false fun h=>absurd h.2 q9).symm
def itS:Nat→RS→RS
 | 0,s=>s
 |i+1,s=>uniS (itS i s) (uY (itS i s) (itS i s))
theorem kS (s:RS):∀ i,(itS i s).1=s.1
 | 0=>rfl
 |i+1=>kS s i
theorem kT (s0:RS) (h:1≤s0.1∧s0.1≤3):qi Tryz.prog 254 [eRS s0] (eRS (itS 4 s0)):=by
 refine qSQ Tryz.call254 Tryz.func254 rfl { mt:=[1] } ?_;simp [go_sem,qe];refine ⟨qw _,?_⟩;refine qk.upK 4 (fun i st=>st.tm 1 = .ptr 0 0∧st.tm 2 = .ptr 1 0∧st.tm 3=aI i∧st.mu=[.arr (cRS (itS i s0)),.arr (aI 0 :: hB fun _=>false)]) ?_ ?_
 ·exact ⟨by simp [go_sem],by simp [go_sem],by simp [go_sem],by simp [go_sem];exact ⟨⟨rfl,rfl⟩,rfl⟩⟩
 rintro i st hi ⟨e1,e2,e3,hm⟩;by_cases hlt:i<4
 ·have hlt':(i:Int)<4:=by omega
  have w1:IntKind.i64.wrap ((i:Int)+1)=(i:Int)+1:=qg (by omega) (by omega);have har:=kS s0 i;have cj:=j9 (itS i s0) (itS i s0) (by omega) (by omega);have cu:=jc (itS i s0) (uY (itS i s0) (itS i s0));have hu:uniS (itS i s0) (uY (itS i s0) (itS i s0))=itS (i+1) s0:=rfl;rw [hu] at cu;clear hu;generalize hs':itS (i+1) s0=s' at *
  generalize uY (itS i s0) (itS i s0)=q at *
  generalize itS i s0=s at *
  simp [go_sem,e1,e2,e3,hm,hlt'];refine qd.intro (by kernel_rfl) ?_;simp [go_sem,e1,e2,e3,hm,qe,tk];refine qc.pure cj (.cons (.hf (zG _)) (.cons (.hf (zG _)) .nil)) ?_;simp [go_sem,e1,e2,e3,hm,qe,tk];refine qc.pure cu (.cons (.hf (zG _)) (.cons (.hf (zG _)) .nil)) ?_;simp [go_sem,e1,e2,e3,hm,qe,tk,pc];rw [if_pos (qw _)];simp [go_sem,e1,e2,e3,hm,qe,tk,pc,w1];exact ⟨hlt,Keep.mk' ⟨by simp [go_sem,e1],by simp [go_sem,e2],by simp [go_sem],by simp [go_sem,hs']⟩⟩
 ·have hie:i=4:=by omega
  subst hie;generalize itS 4 s0=s at *
  simp [go_sem,e1,e2,e3,hm,qe,tk,pc];rw [if_pos (qw _)];simp [go_sem,e1,e2,e3,hm,qe,tk,pc];exact .hf _ (zG s)
def prC (ts:TS) (n:Nd) (l:List RS) (S:RS) (b:Bool):Prop:=qi Tryz.prog 230 [eTS ts,eNd n,lRS l] (.tup [eRS S,aB b])
theorem ap2 (ts:TS) (n:Nd) (L:List RS) (h:n.op=2):prC ts n L (n.n,fun _=>false) true:=by
 unfold prC;refine qSQ Tryz.call230 Tryz.func230 rfl {} ?_;simp [go_sem,h,qe,tk,pc];exact .hf _ (yF (n.n,fun _=>false) true)
theorem ap3 (ts:TS) (ok:okTS ts) (n:Nd) (L:List RS) (h:n.op=3):prC ts n L (ql (qZ ts.sorts.length 1)) true:=by
 unfold prC;refine qSQ Tryz.call230 Tryz.func230 rfl {} ?_;have c1:=allU ts ok 1 (by omega);generalize ql (qZ ts.sorts.length 1)=q at *
 simp [go_sem,h];refine qc.pure c1 (wkTI ts 1) ?_;simp [go_sem,h,qe,tk,pc];rw [if_pos (qw _)];generalize hP:putCells _ 0 (aI q.1 :: hB q.2)=P;have hP2:P=aI q.1 :: hB q.2:=by rw [←hP];exact pc (aI 0) _ (fun _=>false) _
 subst hP2;clear hP;simp [go_sem,h,qe,tk,pc];exact .hf _ (yF q _)
theorem ap4 (ts:TS) (ok:okTS ts) (n:Nd) (L:List RS) (h:n.op=4):prC ts n L (ql (qZ ts.sorts.length 2)) true:=by
 unfold prC;refine qSQ Tryz.call230 Tryz.func230 rfl {} ?_;have c1:=allU ts ok 2 (by omega);generalize ql (qZ ts.sorts.length 2)=q at *
 simp [go_sem,h];refine qc.pure c1 (wkTI ts 2) ?_;simp [go_sem,h,qe,tk,pc];rw [if_pos (qw _)];generalize hP:putCells _ 0 (aI q.1 :: hB q.2)=P;have hP2:P=aI q.1 :: hB q.2:=by rw [←hP];exact pc (aI 0) _ (fun _=>false) _
 subst hP2;clear hP;simp [go_sem,h,qe,tk,pc];exact .hf _ (yF q _)
theorem ap5 (ts:TS) (n:Nd) (q:RS) (h:n.op=5):prC ts n [q] q true:=by
 unfold prC;refine qSQ Tryz.call230 Tryz.func230 rfl {} ?_;simp [go_sem,h,qe,tk,pc];rw [if_pos (qw _)];generalize hP:putCells _ 0 (aI q.1 :: hB q.2)=P;have hP2:P=aI q.1 :: hB q.2:=by rw [←hP];exact pc (aI 0) _ (fun _=>false) _
 subst hP2;clear hP;simp [go_sem,h,qe,tk,pc];exact .hf _ (yF q _)
theorem ap6 (ts:TS) (n:Nd) (q r S:RS) (h:n.op=6) (c:qi Tryz.prog 249 [eRS q,eRS r] (eRS S)):prC ts n [q,r] S (decide (q.1=r.1)):=by
 unfold prC;refine qSQ Tryz.call230 Tryz.func230 rfl {} ?_;simp [go_sem,h,qe,tk,pc];refine qd.floatY [] [10,14] [0,1,2,3,4,5,7,8,9,10,11,12,13,14,15] [(6,false),(16,false),(17,false)] (by kernel_rfl) (by kernel_rfl) (by kernel_rfl) ?_;simp [go_sem,h,qe,tk,pc];refine qc.pure c (wkS2 q r) ?_;simp [go_sem,h,qe,tk,pc];rw [if_pos (qw _)];generalize hP:putCells _ 0 (aI S.1 :: hB S.2)=P;have hP2:P=aI S.1 :: hB S.2:=by rw [←hP];exact pc (aI 0) _ (fun _=>false) _
 subst hP2;clear hP;simp [go_sem,h,qe,tk,pc];exact .hf _ (yF S _)
theorem ap14 (ts:TS) (n:Nd) (q r S:RS) (h:n.op=14) (c:qi Tryz.prog 249 [eRS q,eRS r] (eRS S)):prC ts n [q,r] S (decide (q.1=r.1)):=by
 unfold prC;refine qSQ Tryz.call230 Tryz.func230 rfl {} ?_;simp [go_sem,h,qe,tk,pc];refine qd.floatY [] [10,14] [0,1,2,3,4,5,7,8,9,10,11,12,13,14,15] [(6,false),(16,false),(17,false)] (by kernel_rfl) (by kernel_rfl) (by kernel_rfl) ?_;simp [go_sem,h,qe,tk,pc];refine qc.pure c (wkS2 q r) ?_;simp [go_sem,h,qe,tk,pc];rw [if_pos (qw _)];generalize hP:putCells _ 0 (aI S.1 :: hB S.2)=P;have hP2:P=aI S.1 :: hB S.2:=by rw [←hP];exact pc (aI 0) _ (fun _=>false) _
 subst hP2;clear hP;simp [go_sem,h,qe,tk,pc];exact .hf _ (yF S _)
theorem ap7 (ts:TS) (n:Nd) (q r S:RS) (h:n.op=7) (c:qi Tryz.prog 250 [eRS q,eRS r] (eRS S)):prC ts n [q,r] S (decide (q.1=r.1)):=by
 unfold prC;refine qSQ Tryz.call230 Tryz.func230 rfl {} ?_;simp [go_sem,h,qe,tk,pc];refine qd.floatY [] [10,14] [0,1,2,3,4,5,7,8,9,10,11,12,13,14,15] [(6,false),(16,false),(17,false)] (by kernel_rfl) (by kernel_rfl) (by kernel_rfl) ?_;simp [go_sem,h,qe,tk,pc];refine qc.pure c (wkS2 q r) ?_;simp [go_sem,h,qe,tk,pc];rw [if_pos (qw _)];generalize hP:putCells _ 0 (aI S.1 :: hB S.2)=P;have hP2:P=aI S.1 :: hB S.2:=by rw [←hP];exact pc (aI 0) _ (fun _=>false) _
 subst hP2;clear hP;simp [go_sem,h,qe,tk,pc];exact .hf _ (yF S _)
theorem ap8 (ts:TS) (n:Nd) (q r:RS) (h:n.op=8):prC ts n [q,r] q (decide (q.1=r.1)):=by
 unfold prC;refine qSQ Tryz.call230 Tryz.func230 rfl {} ?_;simp [go_sem,h,qe,tk,pc];refine qd.floatY [] [6,10] [0,1,2,3,4,5,6,7,8,9,10,11] [(12,false),(13,false)] (by kernel_rfl) (by kernel_rfl) (by kernel_rfl) ?_;simp [go_sem,h,qe,tk,pc];rw [if_pos (qw _)];generalize hP:putCells _ 0 (aI q.1 :: hB q.2)=P;have hP2:P=aI q.1 :: hB q.2:=by rw [←hP];exact pc (aI 0) _ (fun _=>false) _
 subst hP2;clear hP;simp [go_sem,h,qe,tk,pc];exact .hf _ (yF q _)
theorem ap32 (ts:TS) (n:Nd) (q r:RS) (h:n.op=32):prC ts n [q,r] zR (decide (q.1=r.1)):=by
 unfold prC;refine qSQ Tryz.call230 Tryz.func230 rfl {} ?_;simp [go_sem,h,qe,tk,pc];refine qd.floatY [] [4,8] [0,1,2,3,4,5,6,7,8,9] [(10,false),(11,false)] (by kernel_rfl) (by kernel_rfl) (by kernel_rfl) ?_;simp [go_sem,h,qe,tk,pc];exact .hf _ (yF zR _)
theorem ap33 (ts:TS) (n:Nd) (q r:RS) (h:n.op=33):prC ts n [q,r] zR (decide (q.1=r.1)):=by
 unfold prC;refine qSQ Tryz.call230 Tryz.func230 rfl {} ?_;simp [go_sem,h,qe,tk,pc];refine qd.floatY [] [4,8] [0,1,2,3,4,5,6,7,8,9] [(10,false),(11,false)] (by kernel_rfl) (by kernel_rfl) (by kernel_rfl) ?_;simp [go_sem,h,qe,tk,pc];exact .hf _ (yF zR _)
theorem ap9 (ts:TS) (n:Nd) (q r S:RS) (h:n.op=9) (hq:0≤q.1∧q.1≤1000) (hr:0≤r.1∧r.1≤1000) (c:qi Tryz.prog 251 [eRS q,eRS r] (eRS S)):prC ts n [q,r] S (decide (1≤q.1+r.1-2∧q.1+r.1-2≤3)):=by
 unfold prC;refine qSQ Tryz.call230 Tryz.func230 rfl {} ?_;have w1:IntKind.i64.wrap (q.1+r.1)=q.1+r.1:=qg (by omega) (by omega);have w2:IntKind.i64.wrap (q.1+r.1-2)=q.1+r.1-2:=qg (by omega) (by omega);simp [go_sem,h,qe,tk,pc];refine qd.intro (by kernel_rfl) ?_;simp [go_sem,h,qe,tk,pc,w1,w2];refine qd.intro (by kernel_rfl) ?_;by_cases h1:1≤q.1+r.1-2
 ·simp [go_sem,h,qe,tk,pc,w1,w2,h1]
  refine qc.pure c (wkS2 q r) ?_;simp [go_sem,h,qe,tk,pc,h1];rw [if_pos (qw _)];generalize hP:putCells _ 0 (aI S.1 :: hB S.2)=P;have hP2:P=aI S.1 :: hB S.2:=by rw [←hP];exact pc (aI 0) _ (fun _=>false) _
  subst hP2;clear hP;simp [go_sem,h,qe,tk,pc,h1];exact .hf _ (yF S _)
 ·simp [go_sem,h,qe,tk,pc,w1,w2,h1]
  refine qc.pure c (wkS2 q r) ?_;simp [go_sem,h,qe,tk,pc,h1];rw [if_pos (qw _)];generalize hP:putCells _ 0 (aI S.1 :: hB S.2)=P;have hP2:P=aI S.1 :: hB S.2:=by rw [←hP];exact pc (aI 0) _ (fun _=>false) _
  subst hP2;clear hP;simp [go_sem,h,qe,tk,pc,h1];exact .hf _ (yF S _)
theorem ap10 (ts:TS) (n:Nd) (q r S:RS) (h:n.op=10) (hq:0≤q.1∧q.1≤1000) (hr:0≤r.1∧r.1≤1000) (c:qi Tryz.prog 252 [eRS q,eRS r] (eRS S)):prC ts n [q,r] S (decide (q.1+r.1≤3)):=by
 unfold prC;refine qSQ Tryz.call230 Tryz.func230 rfl {} ?_;have w1:IntKind.i64.wrap (q.1+r.1)=q.1+r.1:=qg (by omega) (by omega);simp [go_sem,h,qe,tk,pc];refine qd.floatY [] [10,14] [0,1,2,3,4,5,7,8,9,10,11,12,13,14,15,16] [(6,false),(17,false),(18,false)] (by kernel_rfl) (by kernel_rfl) (by kernel_rfl) ?_;simp [go_sem,h,qe,tk,pc,w1];refine qc.pure c (wkS2 q r) ?_;simp [go_sem,h,qe,tk,pc,w1];rw [if_pos (qw _)];generalize hP:putCells _ 0 (aI S.1 :: hB S.2)=P;have hP2:P=aI S.1 :: hB S.2:=by rw [←hP];exact pc (aI 0) _ (fun _=>false) _
 subst hP2;clear hP;simp [go_sem,h,qe,tk,pc,w1];exact .hf _ (yF S _)
theorem ap11 (ts:TS) (n:Nd) (q S:RS) (h:n.op=11) (c:qi Tryz.prog 253 [eRS q] (eRS S)):prC ts n [q] S (decide (q.1=2)):=by
 unfold prC;refine qSQ Tryz.call230 Tryz.func230 rfl {} ?_;simp [go_sem,h,qe,tk,pc];refine qd.floatY [] [7] [0,1,2,4,5,6,7,8] [(3,false),(9,false),(10,false)] (by kernel_rfl) (by kernel_rfl) (by kernel_rfl) ?_;simp [go_sem,h,qe,tk,pc];refine qc.pure c (wkS1 q) ?_;simp [go_sem,h,qe,tk,pc];rw [if_pos (qw _)];generalize hP:putCells _ 0 (aI S.1 :: hB S.2)=P;have hP2:P=aI S.1 :: hB S.2:=by rw [←hP];exact pc (aI 0) _ (fun _=>false) _
 subst hP2;clear hP;simp [go_sem,h,qe,tk,pc];exact .hf _ (yF S _)
theorem ap12 (ts:TS) (n:Nd) (q S:RS) (h:n.op=12) (c:qi Tryz.prog 254 [eRS q] (eRS S)):prC ts n [q] S (decide (q.1=2)):=by
 unfold prC;refine qSQ Tryz.call230 Tryz.func230 rfl {} ?_;simp [go_sem,h,qe,tk,pc];refine qd.floatY [] [7] [0,1,2,4,5,6,7,8] [(3,false),(9,false),(10,false)] (by kernel_rfl) (by kernel_rfl) (by kernel_rfl) ?_;simp [go_sem,h,qe,tk,pc];refine qc.pure c (wkS1 q) ?_;simp [go_sem,h,qe,tk,pc];rw [if_pos (qw _)];generalize hP:putCells _ 0 (aI S.1 :: hB S.2)=P;have hP2:P=aI S.1 :: hB S.2:=by rw [←hP];exact pc (aI 0) _ (fun _=>false) _
 subst hP2;clear hP;simp [go_sem,h,qe,tk,pc];exact .hf _ (yF S _)
theorem ap13 (ts:TS) (ok:okTS ts) (n:Nd) (q C S:RS) (h:n.op=13) (c:qi Tryz.prog 254 [eRS q] (eRS C)) (c2:qi Tryz.prog 249 [eRS C,eRS (ql (qZ ts.sorts.length 2))] (eRS S)):prC ts n [q] S (decide (q.1=2)):=by
 unfold prC;refine qSQ Tryz.call230 Tryz.func230 rfl {} ?_;have c1:=allU ts ok 2 (by omega);generalize ql (qZ ts.sorts.length 2)=D at *
 simp [go_sem,h,qe,tk,pc];refine qd.floatY [] [4,10] [0,1,2,4,7,8,9,10,11] [(3,false),(5,false),(6,false),(12,false),(13,false)] (by kernel_rfl) (by kernel_rfl) (by kernel_rfl) ?_;simp [go_sem,h,qe,tk,pc];refine qc.pure c (wkS1 q) ?_;simp [go_sem,h,qe,tk,pc];refine qc.pure c1 (wkTI ts 2) ?_;simp [go_sem,h,qe,tk,pc];refine qc.pure c2 (wkS2 C D) ?_;simp [go_sem,h,qe,tk,pc];rw [if_pos (qw _)];generalize hP:putCells _ 0 (aI S.1 :: hB S.2)=P;have hP2:P=aI S.1 :: hB S.2:=by rw [←hP];exact pc (aI 0) _ (fun _=>false) _
 subst hP2;clear hP;simp [go_sem,h,qe,tk,pc];exact .hf _ (yF S _)
theorem apO (ts:TS) (n:Nd) (L:List RS) (h2:n.op≠2) (h3:n.op≠3) (h4:n.op≠4) (h5:n.op≠5) (h6:n.op≠6) (h14:n.op≠14) (h7:n.op≠7) (h8:n.op≠8) (h32:n.op≠32) (h33:n.op≠33) (h9:n.op≠9) (h10:n.op≠10) (h11:n.op≠11) (h12:n.op≠12) (h13:n.op≠13):prC ts n L zR true:=by
 unfold prC;refine qSQ Tryz.call230 Tryz.func230 rfl {} ?_;simp [go_sem,h2,h3,h4,h5,h6,h14,h7,h8,h32,h33,h9,h10,h11,h12,h13,qe,tk,pc];exact .hf _ (yF zR true)
end Go.Proofs.YtkglmpmlfjogkaaGreatDoor.QN


namespace Go.Proofs.YtkglmpmlfjogkaaGreatDoor.PC
open Go Go.Ev Go.Proofs Go.Proofs.YtkglmpmlfjogkaaGreatDoor YM YS YF P1 P2 Y1 Y2 Y3 Y4 Y5 Y9 Y10 Y12 Y14 Y16 YX YZ YA YB PA YC YE YG Q1 Q3 Q4 Q6 PB
theorem apK1 (ns:Nat) (op n pos:Int) (a:Kd):zJ ns op n pos [some a]=if op=2 then .ok (some ⟨n,[]⟩) else if op=3 then .ok (some (qZ ns 1)) else if op=4 then .ok (some (qZ ns 2)) else
  if op=5 then .ok (some a) else if op=11∨op=12∨op=13 then (if a.ar=2 then .ok (some (binK ns op a)) else .error (42,pos)) else .ok none:=rfl
theorem apK2 (ns : Nat) (op n pos : Int) (a b : Kd) : zJ ns op n pos [some a, some b] = if op = 2 then .ok (some ⟨n, []⟩) else if op = 3 then .ok (some (qZ ns 1)) else if op = 4 then .ok (some (qZ ns 2)) else
      if op=6∨op=14∨op=7∨op=8∨op=32∨op=33 then (if a.ar=b.ar then .ok (some (vJ op a b)) else .error (42,pos))
      else if op=9 then (if 1≤a.ar+b.ar-2∧a.ar+b.ar-2≤3 then .ok (some (zd a b)) else .error (42,pos))
      else if op=10 then (if a.ar+b.ar≤3 then .ok (some (uI a b)) else .error (42,pos))
      else .ok none:=rfl
theorem UJ (ts:TS) (i:Nat):∀ m,i<m→m≤ts.preds.length→∀(hi:i<ts.preds.length),(tmsL ts m).getD i false=zM (mkCk ts i) ts.preds[i].body
 | 0,h,_,_=>absurd h (by omega)
 |m+1,h,hm,hi=>by
  have hl:=uQ ts m (by omega);have hmp:m<ts.preds.length:=by omega
  have e:tmsL ts (m+1)=tmsL ts m++[zM (mkCk ts m) ts.preds[m].body]:=by
   show tmsL ts m++(match ts.preds[m]? with | some p=>[zM ⟨ts,m,tmsL ts m⟩ p.body] | none=>[])=_;rw [qq hmp];rfl
  rw [e];by_cases hq:i<m
  ·rw [←UJ ts i m hq (by omega) hi]
   simp only [List.getD_eq_getElem?_getD];rw [qm (by omega)]
  ·have:i=m:=by omega
   subst this;simp only [List.getD_eq_getElem?_getD];rw [qP (by omega),hl];simp
abbrev tkn (es:List (ByteArray×Bool)) (nm:ByteArray):Prop:=getK nm es=some true
def vLe (es:List (ByteArray×Bool)) (L:Int) (nm:ByteArray):Prop:=∃ j:Nat,(j:Int)≤L∧nm=vN j∧¬tkn es nm∧jf nm=true
structure qeY (es:List (ByteArray×Bool)) (L:Int) (x:Nd):Prop where
 nc:x.op≠47
 own:ownB x=true
 nm:tkn es x.name∨vLe es L x.name
structure GoodN (es:List (ByteArray×Bool)) (L:Int) (n:Nd):Prop where
 wf:WfN n
 all:∀ x,x∈preN n→qeY es L x
end Go.Proofs.YtkglmpmlfjogkaaGreatDoor.PC


namespace Go.Proofs.YtkglmpmlfjogkaaGreatDoor.PG
open Go Go.Ev Go.Proofs Go.Proofs.YtkglmpmlfjogkaaGreatDoor YM YF Y1 Y2 Y3 Y4 P1 P2 Y9 PA YD PB YZ
theorem qeZ {ns:Nat} {op n pos:Int} {l:List (Option Kd)} {e:Dg} (h:zJ ns op n pos l = .error e):40≤e.1:=by
 unfold zJ at h
 repeat' split at h
 all_goals first
  | (cases h;done)
  | (cases h;simp)
theorem qe0 {c:Ck} {s:Scp} {nm:ByteArray} {pos:Int} {e:Dg} (h:yp c s nm pos = .error e):40≤e.1:=by
 unfold yp at h
 repeat' split at h
 all_goals first
  | (cases h;done)
  | (cases h;simp)
section
variable {c:Ck}
theorem wT {inn:Bool}:∀{ks:List Nd} {s:Scp} {e:Dg},(∀ k,k∈ks→∀ s e,exam c s inn k = .error e→40≤e.1)→q6 c s inn ks = .error e→40≤e.1
 | [],s,e,_,h=>by simp only [q6] at h;cases h
 |k :: ks,s,e,ih,h=>by
  simp only [q6] at h;split at h
  ·rename_i e' hx
   cases h;exact ih k (zU ..) s _ hx
  ·split at h
   ·rename_i e' hx
    cases h;exact wT (fun k hk=>ih k (zx _ hk)) hx
   ·cases h
theorem Y0 {pos:Int}:∀{ks:List Nd} {ps:List (ByteArray×Int)} {s:Scp} {e:Dg},(∀ k,k∈ks→∀ s e,exam c s true k = .error e→40≤e.1)→zt c s pos ps ks = .error e→40≤e.1
 | [],ps,s,e,_,h=>by cases ps<;>(simp only [zt] at h;cases h)
 |k :: ks,[],s,e,_,h=>by simp only [zt] at h;cases h
 |k :: ks,p :: ps,s,e,ih,h=>by
  simp only [zt] at h;split at h
  ·rename_i e' hx
   cases h;exact ih k (zU ..) s _ hx
  ·cases h;simp
  ·split at h
   ·split at h
    ·exact Y0 (fun k hk=>ih k (zx _ hk)) h
    ·cases h;simp
   ·cases h;simp
theorem qe1 {inn:Bool} {nm:ByteArray} {pos:Int}:∀{ks:List Nd} {s:Scp} {e:Dg},(∀ k,k∈ks→∀ s e,exam c s inn k = .error e→40≤e.1)→yd c s inn nm pos ks = .error e→40≤e.1
 | [],s,e,_,h=>by simp only [yd] at h;cases h
 |k :: ks,s,e,ih,h=>by
  simp only [yd] at h;split at h
  ·rename_i e' hx
   cases h;exact ih k (zU ..) s _ hx
  ·cases h;simp
  ·split at h
   ·split at h
    ·rename_i e' hx
     cases h;exact wT (fun k hk=>ih k (zx _ hk)) hx
    ·cases h
   ·cases h;simp
theorem uX (c:Ck):∀(m:Nat) (n:Nd) (s:Scp) (inn:Bool) (e:Dg),szN n≤m→exam c s inn n = .error e→40≤e.1
 | 0,n,_,_,_,hm,_=>by obtain ⟨op,nm,i,ks,p⟩:=n;simp [szN] at hm
 |m+1,n,s,inn,e,hm,h=>by
  have ih:∀ inn k,k∈n.kids→∀ s e,exam c s inn k = .error e→40≤e.1:=fun inn k hk s e h=>uX c m k s inn e (by have:=zZ hk;omega) h
  rw [jE] at h;split at h
  ·cases h;simp
  split at h
  ·exact qe0 h
  split at h
  ·split at h
   ·split at h
    ·cases h;simp
    ·split at h
     ·cases h;simp
     ·split at h
      ·exact Y0 (ih true) h
      ·cases h;simp
   ·cases h;simp
  split at h
  ·exact qe1 (ih _) h
  ·split at h
   ·rename_i e' hx
    cases h;exact wT (ih _) hx
   ·exact qeZ h
end
theorem qe2 {ks:List Nd} {k:Nd} (h:k∈ks):depN k≤zS ks:=by
 induction ks with
 |nil=>simp at h
 |cons a l ih =>
  simp only [zS];rcases qv.1 h with rfl | h
  ·omega
  ·have:=ih h;omega
theorem qe3 (n:Nd):1≤depN n:=by
 rw [wV];have:∀ ks:List Nd,0≤zS ks:=by
  intro ks;induction ks with
  |nil=>simp [zS]
  |cons a l ih=>simp only [zS];omega
 have:=this n.kids;omega
end Go.Proofs.YtkglmpmlfjogkaaGreatDoor.PG


namespace Go.Proofs.YtkglmpmlfjogkaaGreatDoor.QO
open Go Go.Ev Go.Proofs Go.Proofs.YtkglmpmlfjogkaaGreatDoor YM YF Y9 Y10 Y1 Y2 Y3 Y12 Y13 P1 P2 PA PB QD QE QF QG QH QI QJ QK QL QM QN PG PC
theorem kU {ts:TS} {n:Nd} {L:List RS} {S S':RS} {b:Bool} (e:eRS S=eRS S') (h:prC ts n L S b):prC ts n L S' b:=by
 unfold prC at h ⊢;rw [←e];exact h
theorem qe4 {ts:TS} {n:Nd} {a b:Kd} (ho:n.op=6∨n.op=14∨n.op=7∨n.op=8∨n.op=32∨n.op=33):∃ S,prC ts n [ql a,ql b] S (decide (a.ar=b.ar))∧(a.ar=b.ar→kd n.op=101→S=ql (vJ n.op a b)):=by
 have e6:∀ op:Int,op=6∨op=14→vJ op a b=kSum a b:=fun op h=>by unfold vJ;rw [if_pos h]
 by_cases har:a.ar=b.ar
 ·rcases ho with h | h | h | h | h | h
  ·exact ⟨_,ap6 ts n _ _ _ h (by have:=jc (ql a) (ql b);rw [Zy har] at this;exact this),fun _ _=>by rw [h,e6 6 (.inl rfl)]⟩
  ·exact ⟨_,ap14 ts n _ _ _ h (by have:=jc (ql a) (ql b);rw [Zy har] at this;exact this),fun _ _=>by rw [h,e6 14 (.inr rfl)]⟩
  ·exact ⟨_,ap7 ts n _ _ _ h (by have:=YL (ql a) (ql b);rw [qeC har] at this;exact this),fun _ _=>by rw [h];rfl⟩
  ·exact ⟨_,ap8 ts n _ _ h,fun _ _=>by rw [h];rfl⟩
  ·exact ⟨_,ap32 ts n _ _ h,fun _ hk=>by rw [h] at hk;exact absurd hk (by decide)⟩
  ·exact ⟨_,ap33 ts n _ _ h,fun _ hk=>by rw [h] at hk;exact absurd hk (by decide)⟩
 ·rcases ho with h | h | h | h | h | h
  ·exact ⟨_,ap6 ts n _ _ _ h (jc (ql a) (ql b)),fun e=>absurd e har⟩
  ·exact ⟨_,ap14 ts n _ _ _ h (jc (ql a) (ql b)),fun e=>absurd e har⟩
  ·exact ⟨_,ap7 ts n _ _ _ h (YL (ql a) (ql b)),fun e=>absurd e har⟩
  ·exact ⟨_,ap8 ts n _ _ h,fun e=>absurd e har⟩
  ·exact ⟨_,ap32 ts n _ _ h,fun e=>absurd e har⟩
  ·exact ⟨_,ap33 ts n _ _ h,fun e=>absurd e har⟩
theorem qe5 {ts:TS} (ok:okTS ts) {n:Nd} {a:Kd} (ha:okKd ts.sorts.length a) (ho:n.op=11∨n.op=12∨n.op=13):∃ S,prC ts n [ql a] S (decide (a.ar=2))∧(a.ar=2→S=ql (binK ts.sorts.length n.op a)):=by
 have hns:=ok.ns;by_cases h2:a.ar=2
 ·have hc:=Yo ha h2 hns
  rcases ho with h | h | h
  ·exact ⟨_,ap11 ts n _ _ h (by have:=kA (ql a);rw [qeI ha hns h2] at this;exact this),fun _=>by rw [h];rfl⟩
  ·exact ⟨_,ap12 ts n _ _ h hc,fun _=>by rw [h];rfl⟩
  ·refine ⟨_,ap13 ts ok n _ _ (ql (kSum (kClo a) (qZ ts.sorts.length 2))) h hc ?_,fun _=>by rw [h];rfl⟩
   have:=jc (ql (kClo a)) (ql (qZ ts.sorts.length 2));rw [Zy (show (kClo a).ar=2 from (YP ha h2).2)] at this;exact this
 ·have har:=ha.ar
  rcases ho with h | h | h
  ·exact ⟨_,ap11 ts n _ _ h (kA (ql a)),fun e=>absurd e h2⟩
  ·exact ⟨_,ap12 ts n _ _ h (kT (ql a) har),fun e=>absurd e h2⟩
  ·exact ⟨_,ap13 ts ok n _ _ _ h (kT (ql a) har) (jc _ _),fun e=>absurd e h2⟩
theorem qe6 (ts:TS) (ok:okTS ts) (n:Nd) (l:List (Option Kd)) (L:List RS) (e1:n.op≠1) (e15:n.op≠15)
  (h1:n.op=5∨n.op=11∨n.op=12∨n.op=13→∃ a,l=[some a]∧L=[ql a]∧okKd ts.sorts.length a)
  (h2:n.op=6∨n.op=14∨n.op=7∨n.op=8∨n.op=32∨n.op=33∨n.op=9∨n.op=10→∃ a b,l=[some a,some b]∧L=[ql a,ql b]∧okKd ts.sorts.length a∧okKd ts.sorts.length b) :
  ∃ S b,prC ts n L S b∧ApE n.op (zJ ts.sorts.length n.op n.n n.pos l) S b:=by
 have hns:=ok.ns;by_cases o2:n.op=2
 ·refine ⟨ql ⟨n.n,[]⟩,true,kU (kR n.n) (ap2 ts n L o2),?_⟩
  unfold zJ;rw [if_pos o2];exact ⟨rfl,fun _=>⟨_,rfl,rfl⟩⟩
 by_cases o3:n.op=3
 ·refine ⟨_,true,ap3 ts ok n L o3,?_⟩
  unfold zJ;rw [if_neg o2,if_pos o3];exact ⟨rfl,fun _=>⟨_,rfl,rfl⟩⟩
 by_cases o4:n.op=4
 ·refine ⟨_,true,ap4 ts ok n L o4,?_⟩
  unfold zJ;rw [if_neg o2,if_neg o3,if_pos o4];exact ⟨rfl,fun _=>⟨_,rfl,rfl⟩⟩
 by_cases g1:n.op=5∨n.op=11∨n.op=12∨n.op=13
 ·obtain ⟨a,rfl,rfl,ha⟩:=h1 g1
  rw [apK1,if_neg o2,if_neg o3,if_neg o4];by_cases o5:n.op=5
  ·rw [if_pos o5]
   exact ⟨_,true,ap5 ts n _ o5,rfl,fun _=>⟨_,rfl,rfl⟩⟩
  have g:n.op=11∨n.op=12∨n.op=13:=by omega
  rw [if_neg o5,if_pos g];obtain ⟨S,hc,hS⟩:=qe5 ok ha g;refine ⟨S,_,hc,?_⟩;by_cases har:a.ar=2
  ·rw [if_pos har]
   exact ⟨decide_eq_true har,fun _=>⟨_,rfl,hS har⟩⟩
  ·rw [if_neg har]
   exact decide_eq_false har
 by_cases g2:n.op=6∨n.op=14∨n.op=7∨n.op=8∨n.op=32∨n.op=33∨n.op=9∨n.op=10
 ·obtain ⟨a,b,rfl,rfl,ha,hb⟩:=h2 g2
  have ra:=ha.ar;have rb:=hb.ar;rw [apK2,if_neg o2,if_neg o3,if_neg o4];by_cases g3:n.op=6∨n.op=14∨n.op=7∨n.op=8∨n.op=32∨n.op=33
  ·rw [if_pos g3]
   obtain ⟨S,hc,hS⟩:=qe4 (ts:=ts) (n:=n) (a:=a) (b:=b) g3;refine ⟨S,_,hc,?_⟩;by_cases har:a.ar=b.ar
   ·rw [if_pos har]
    exact ⟨decide_eq_true har,fun hk=>⟨_,rfl,hS har hk⟩⟩
   ·rw [if_neg har]
    exact decide_eq_false har
  rw [if_neg g3];by_cases o9:n.op=9
  ·rw [if_pos o9]
   by_cases har:1≤a.ar+b.ar-2∧a.ar+b.ar-2≤3
   ·rw [if_pos har]
    refine ⟨_,_,ap9 ts n _ _ (ql (zd a b)) o9 (by show 0≤a.ar∧a.ar≤1000;omega) (by show 0≤b.ar∧b.ar≤1000;omega) ?_,decide_eq_true har,fun _=>⟨_,rfl,rfl⟩⟩;rw [←kJ ha hb hns har];exact j9 _ _ (by show 0≤a.ar∧a.ar≤1000;omega) (by show 1≤b.ar∧b.ar≤1000;omega)
   ·rw [if_neg har]
    exact ⟨_,_,ap9 ts n _ _ _ o9 (by show 0≤a.ar∧a.ar≤1000;omega) (by show 0≤b.ar∧b.ar≤1000;omega) (j9 _ _ (by show 0≤a.ar∧a.ar≤1000;omega) (by show 1≤b.ar∧b.ar≤1000;omega)),decide_eq_false har⟩
  have o10:n.op=10:=by omega
  rw [if_neg o9,if_pos o10];by_cases har:a.ar+b.ar≤3
  ·rw [if_pos har]
   refine ⟨_,_,ap10 ts n _ _ (ql (uI a b)) o10 (by show 0≤a.ar∧a.ar≤1000;omega) (by show 0≤b.ar∧b.ar≤1000;omega) ?_,decide_eq_true har,fun _=>⟨_,rfl,rfl⟩⟩;rw [←qeD ha hb hns har];exact kB _ _ (by show 0≤a.ar∧a.ar≤1000;omega) (by show 0≤b.ar∧b.ar≤1000;omega)
  ·rw [if_neg har]
   exact ⟨_,_,ap10 ts n _ _ _ o10 (by show 0≤a.ar∧a.ar≤1000;omega) (by show 0≤b.ar∧b.ar≤1000;omega) (kB _ _ (by show 0≤a.ar∧a.ar≤1000;omega) (by show 0≤b.ar∧b.ar≤1000;omega)),decide_eq_false har⟩
 refine ⟨zR,true,apO ts n L o2 o3 o4 (by omega) (by omega) (by omega) (by omega) (by omega) (by omega) (by omega) (by omega) (by omega) (by omega) (by omega) (by omega),?_⟩;rw [VU o2 o3 o4 (by omega) (by omega) (by omega) (by omega) (by omega) (by omega) (by omega) (by omega) (by omega) (by omega) (by omega) (by omega)];refine ⟨rfl,fun hk=>?_⟩;have:=VW hk;omega
theorem kV {ns:Nat} (hns:ns≤4) {q:Kd} (h:okKd ns q) (h1:q.ar=1) (i:Int):jQ i q=true↔∀ k:Nat,k<4→(ql q).2 k=true→(k:Int)=i:=by
 unfold jQ;rw [List.all_eq_true];constructor
 ·intro ha k hk hs
  rw [zT,h1] at hs;have:=ha _ hs.2;simpa [dig,pad] using this
 ·intro ha t ht
  obtain ⟨j,hj,e⟩:=wY h hns ht;rw [h1] at hj e;have hj4:j<4:=hj;have:=ha j hj4 ((zT q j).2 ⟨by rw [h1];exact hj4,by rw [h1,←e];exact ht⟩);rw [e];simp [dig,pad,this]
def ExR (c:Ck) (s:Scp) (inn:Bool) (n:Nd):Prop:=∃ S:RS,qi Tryz.prog 196 [eVw c inn,lVr (envS s),eNd n] (.tup [eRS S,eDg (dgOf (exam c s inn n))])∧(kd n.op=101→∀ q,exam c s inn n = .ok (some q)→S=ql q)
theorem kW (c:Ck) (inn:Bool):HF (eVw c inn):=HF.agg fun x hx=>by
 simp only [qv,q9,or_false] at hx;rcases hx with rfl | rfl | rfl | rfl | rfl | rfl | rfl
 ·exact Yr _
 ·exact Ys _
 ·exact ug _
 ·exact Zi _
 ·exact ZC _
 ·exact HF.sc _
 ·exact HF.sc _
theorem wkE (c:Ck) (inn:Bool) (l:List Vr) (n:Nd):WKs [eVw c inn,lVr l,eNd n] [eVw c inn,lVr l,eNd n] := .cons (.hf (kW c inn)) (.cons (.hf (qeS _)) (.cons (.hf (qB n)) .nil))
theorem js (d:Dg):HF (eDg d):=HF.agg fun x hx=>by
 simp only [qv,q9,or_false] at hx;rcases hx with rfl | rfl<;>exact HF.sc _
theorem kX {c:Ck} {nm:ByteArray} {p:Nat} (hc:okCk c) (h:zg c nm=some p):(c.ts.preds.any fun p=>decide (p.name=nm))=true:=by
 obtain ⟨_,hp⟩:=Zj hc h;unfold zg at h;rw [List.findIdx?_eq_some_iff_getElem] at h;obtain ⟨hi,a1,_⟩:=h;simp only [List.getElem_take] at a1;exact List.any_eq_true.2 ⟨_,qr hp,a1⟩
theorem qe7 {ts:TS} {nm:ByteArray} (h:zg (mkCk ts ts.preds.length) nm=none):(ts.preds.any fun p=>decide (p.name=nm))=false:=by
 unfold zg at h;rw [List.findIdx?_eq_none_iff] at h;rw [List.any_eq_false];intro p hp;have:p∈ts.preds.take ts.preds.length:=by rw [zb];exact hp
 have:=h p this;simpa using this
theorem kY {n:Nd} (hw:WfN n) (h:n.op=47):∀ k,k∈n.kids→kd k.op=101:=by
 have hsh:=hw.shape;have e:shp n.op n.kids.length=some (List.replicate (min n.kids.length 401) 101):=by
  unfold shp;rw [if_neg (by omega),if_neg (by omega),if_neg (by omega),if_neg (by omega),if_neg (by omega),if_neg (by omega),if_neg (by omega),if_pos h]
 rw [e] at hsh;simp only [Option.some.injEq] at hsh;intro k hk;have:kd k.op∈n.kids.map fun k=>kd k.op:=qn.2 ⟨k,hk,rfl⟩
 rw [←hsh] at this;exact List.eq_of_mem_replicate this
theorem qe8 (c:Ck) (hc:okCk c) (s:Scp) (hs:ScOk c.ts.sorts.length s) (n:Nd) (hw:WfN n) (hop:n.op=47) (ih:∀ k,k∈n.kids→ExR c s true k) (inn:Bool) :
  qi Tryz.prog 228 [eVw c inn,lVr (envS s),eNd n] (eDg (dgOf (jT c s n))):=by
 generalize hR:jT c s n=R;unfold jT at hR;refine qSQ Tryz.call228 Tryz.func228 rfl { mt:=[3] } ?_;have hnp:=hc.ts.np;have hkl:=hw.len;have hp1:=Jl c hc n.name;have hp2:=Jl (mkCk c.ts c.ts.preds.length) (wK hc.ts (qo _)) n.name;have hwp:∀ k:Int,WKs [eTS c.ts,aI k,aS n.name] [eTS c.ts,aI k,aS n.name]:=fun k => .cons (.hf (ze _)) (.cons (.hf (HF.sc _)) (.cons (.hf (HF.sc _)) .nil))
 simp [go_sem];refine qc.pure hp1 (hwp _) ?_;cases hcal:zg c n.name with
 |none =>
  rw [hcal] at hR;simp [go_sem,idxO];refine qc.pure hp2 (hwp _) ?_;cases hcal2:zg (mkCk c.ts c.ts.preds.length) n.name with
  |none =>
   rw [qe7 hcal2] at hR;subst hR;simp [go_sem,idxO,dgOf];exact .hf _ (js (40,n.pos))
  |some p =>
   have ha:(c.ts.preds.any fun p=>decide (p.name=n.name))=true:=kX (c:=mkCk c.ts c.ts.preds.length) (wK hc.ts (qo _)) hcal2;rw [ha] at hR;subst hR;have hp0:¬(p:Int)<0:=by omega
   simp [go_sem,idxO,dgOf,hp0];exact .hf _ (js (45,n.pos))
 |some p =>
  obtain ⟨_,hlt⟩:=Zj hc hcal;rw [kX hc hcal,if_pos rfl,hcal] at hR;simp only [qq hlt] at hR;have hp0:¬(p:Int)<0:=by omega
  have hpd:=hc.ts.pl _ (qr hlt);simp [go_sem,idxO,hlt,jC,hp0];generalize hpp:c.ts.preds[p]=pd at *
  by_cases hpl:pd.params.length=n.kids.length
  ·rw [if_pos hpl] at hR
   simp [go_sem,hpl];have hkd:=kY hw hop;refine qk.upK pd.params.length (fun k st=>st.tm 1=lVr (envS s)∧st.tm 3 = .ptr 0 0∧st.tm 5 = .ip (cNd n)∧st.tm 6 = .ptr 1 0∧st.tm 8=lPm pd.params∧st.tm 9=aI k∧st.mu[0]?=some (.arr (cVw c true))∧st.mu[1]?=some (.arr [aI 0,aI 0])∧zt c s n.pos (pd.params.drop k) (n.kids.drop k)=R) ?_ ?_
   ·exact ⟨by simp [go_sem],by simp [go_sem],by simp [go_sem],by simp [go_sem],by simp [go_sem],by simp [go_sem],by simp [go_sem],by simp [go_sem],by simpa using hR⟩
   rintro k st hk ⟨e1,e3,e5,e6,e8,e9,m0,m1,hE⟩;have hml:1<st.mu.length:=(qh.1 m1).1;have hpush:∀(l:List Cell) (i:Nat),i<st.mu.length→(st.mu++l)[i]?=st.mu[i]?:=fun l i hi=>qm hi
   have hset:∀ c,(st.mu.set 1 c)[1]?=some c:=fun c=>qR hml
   have hset2:∀ c (l:List Cell),((st.mu++l).set 1 c)[1]?=some c:=fun c l=>qR (by simp;omega)
   have hg0:∀(l:List Cell) (h:0<(st.mu++l).length),(st.mu++l)[0] = .arr (cVw c true):=fun l h=>by
    rw [UO (by omega)];exact (qh.1 m0).2
   have hg1:∀(l:List Cell) (h:1<(st.mu++l).length),(st.mu++l)[1] = .arr [aI 0,aI 0]:=fun l h=>by
    rw [UO (by omega)];exact (qh.1 m1).2
   by_cases hkl':k=pd.params.length
   ·subst hkl'
    rw [List.drop_length,hpl,List.drop_length] at hE;simp only [zt] at hE;subst hE;simp [go_sem,e1,e3,e5,e6,e8,e9,m0,m1,hpl,dgOf,hset];exact .hf _ (js (0,0))
   have hlt1:k<pd.params.length:=by omega
   have hlt2:k<n.kids.length:=by omega
   have w1:IntKind.i64.wrap ((k:Int)+1)=(k:Int)+1:=qg (by omega) (by omega);obtain ⟨S,hi,hS⟩:=ih n.kids[k] (qr hlt2);rw [qX hlt1,qX hlt2] at hE;simp only [zt] at hE;have hok:=vQ hc (szN n.kids[k]) n.kids[k] s true;have hkk:=hkd n.kids[k] (qr hlt2);have hwk':=hw.kid (qr hlt2);simp [go_sem,e1,e3,e5,e6,e8,e9,m0,m1,hlt1,hlt2,qj];refine qd.move 11 1 (by kernel_rfl) (by kernel_rfl) ?_ ?_
   ·simp [go_sem,e1,e3,e5,e6,e8,e9,m0,m1,hlt1,hlt2,qj]
    refine qc.pure hi (wkE c true _ _) ?_;cases hx:exam c s true n.kids[k] with
    |error e =>
     rw [hx] at hE;subst hE;have he:=uX c (szN n.kids[k]) n.kids[k] s true e (qo _) hx;have he0:¬e.1=0:=by omega
     simp [go_sem,e1,e3,e5,e6,e8,e9,m0,m1,hlt1,hlt2,qe,QE.tk,pc,hpush,he0,dgOf];rw [if_pos (qw _)];generalize hP:putCells _ 0 (aI S.1 :: hB S.2)=P;have hP2:P=aI S.1 :: hB S.2:=by rw [←hP];exact pc (aI 0) _ (fun _=>false) _
     subst hP2;clear hP;simp [go_sem,e1,e3,e5,e6,e8,e9,m0,m1,hlt1,hlt2,qe,QE.tk,pc,hpush,he0,dgOf];simp [go_sem,hg1,hset2,e6];exact .hf _ (js e)
    |ok ko =>
     obtain ⟨q,rfl,hq⟩:=hok ko (qo _) hwk' hs hx hkk;have hSq:=hS hkk q hx;subst hSq;rw [hx] at hE;simp only at hE;have hns:=hc.ts.ns;have haq:(ql q).1=q.ar:=rfl;have hag:=fun h=>kV hns hq h pd.params[k].2
     generalize ql q=Q at *
     simp [go_sem,e1,e3,e5,e6,e8,e9,m0,m1,hlt1,hlt2,qe,QE.tk,pc,hpush,dgOf];rw [if_pos (qw _)];generalize hP:putCells _ 0 (aI Q.1 :: hB Q.2)=P;have hP2:P=aI Q.1 :: hB Q.2:=by rw [←hP];exact pc (aI 0) _ (fun _=>false) _
     subst hP2;clear hP;by_cases har:q.ar=1
     ·rw [if_pos har] at hE
      have har':Q.1=1:=haq.trans har;simp [go_sem,e1,e3,e5,e6,e8,e9,m0,m1,hlt1,hlt2,qe,QE.tk,pc,hpush,dgOf,har'];have hfst:pd.params[k].2<4∧0≤pd.params[k].2:=by have:=hpd.2 _ (qr hlt1);omega
      refine qk.upK 4 (fun j st'=>∃ b,2≤b∧st'.tm 10 = .ptr b 0∧st'.mu[b]?=some (.arr (aI 1 :: hB Q.2))∧st'.tm 1=lVr (envS s)∧st'.tm 3 = .ptr 0 0∧st'.tm 5 = .ip (cNd n)∧st'.tm 6 = .ptr 1 0∧st'.tm 8=lPm pd.params∧st'.tm 9=aI k∧st'.tm 12=aI j∧st'.mu[0]?=some (.arr (cVw c true))∧st'.mu[1]?=some (.arr [aI 0,aI 0]) ∧
       ∀ i:Nat,i<j→Q.2 i=true→(i:Int)=pd.params[k].2) ?_ ?_
      ·exact ⟨st.mu.length,by omega,by simp [go_sem],by simp [go_sem],by simp [go_sem,e1],by simp [go_sem,e3],by simp [go_sem,e5],by simp [go_sem,e6],by simp [go_sem,e8],by simp [go_sem,e9],by simp [go_sem],by simp only [qD];rw [hpush _ _ (by omega)];exact m0,by simp only [qD];rw [hpush _ _ (by omega)];exact m1,fun i hi=>by omega⟩
      ·clear e1 e3 e5 e6 e8 e9 m0 m1 hpush hset hset2 hg0 hg1 hml
       rintro j st2 hj ⟨b,hb,e10,mb,e1,e3,e5,e6,e8,e9,e12,m0,m1,hall⟩;have hml:1<st2.mu.length:=(qh.1 m1).1;have hset:∀ c,(st2.mu.set 1 c)[1]?=some c:=fun c=>qR hml
       by_cases hj4:j<4
       ·have hjl:(j:Int)<4:=by omega
        have hj64:j<64:=by omega
        have hj64':(j:Int)<64:=by omega
        have wj:IntKind.i64.wrap ((j:Int)+1)=(j:Int)+1:=qg (by omega) (by omega);have hd1:=d1 (aI 1) Q.2 j hj64;have hi1:1+j≤64:=by omega
        by_cases hQ:Q.2 j=true
        ·rw [hQ] at hd1
         by_cases hq2:(j:Int)=pd.params[k].2
         ·have hq3:=eq_true hq2
          simp [go_sem,e10,mb,e1,e3,e5,e6,e8,e9,e12,hjl,hj64,hj64',hd1,hi1,qe,hlt1,hq3,wj];refine ⟨hj4,Keep.mk' ⟨b,hb,by simp [go_sem,e10],by simp [go_sem,mb],by simp [go_sem,e1],by simp [go_sem,e3],by simp [go_sem,e5],by simp [go_sem,e6],by simp [go_sem,e8],by simp [go_sem,e9],by simp [go_sem],by simp [go_sem,m0],by simp [go_sem,m1],fun i hi h=>?_⟩⟩;by_cases hij:i=j
          ·subst hij;exact hq2
          ·exact hall i (by omega) h
         ·have hbad:¬jQ pd.params[k].2 q=true:=fun h=>hq2 ((hag har).1 h j hj4 hQ)
          rw [if_neg hbad] at hE;subst hE;simp [go_sem,e10,mb,e1,e3,e5,e6,e8,e9,e12,hjl,hj64,hj64',hd1,hi1,qe,hlt1,hq2,wj,m1,hset];exact .hf _ (js (43,n.pos))
        ·have hQ:Q.2 j=false:=by simpa using hQ
         rw [hQ] at hd1;simp [go_sem,e10,mb,e1,e3,e5,e6,e8,e9,e12,hjl,hj64,hj64',hd1,hi1,qe,hlt1,wj];refine ⟨hj4,Keep.mk' ⟨b,hb,by simp [go_sem,e10],by simp [go_sem,mb],by simp [go_sem,e1],by simp [go_sem,e3],by simp [go_sem,e5],by simp [go_sem,e6],by simp [go_sem,e8],by simp [go_sem,e9],by simp [go_sem],by simp [go_sem,m0],by simp [go_sem,m1],fun i hi h=>?_⟩⟩;by_cases hij:i=j
         ·subst hij;rw [hQ] at h;cases h
         ·exact hall i (by omega) h
       ·have hje:j=4:=by omega
        subst hje;have hgood:jQ pd.params[k].2 q=true:=(hag har).2 fun i hi h=>hall i hi h
        rw [if_pos hgood] at hE;simp [go_sem,e10,mb,e1,e3,e5,e6,e8,e9,e12,w1];exact ⟨hlt1,Keep.mk' ⟨by simp [go_sem,e1],by simp [go_sem,e3],by simp [go_sem,e5],by simp [go_sem,e6],by simp [go_sem,e8],by simp [go_sem],by simp [go_sem,m0],by simp [go_sem,m1],hE⟩⟩
     ·rw [if_neg har] at hE
      subst hE;have har':¬Q.1=1:=fun e=>har (haq.symm.trans e)
      simp [go_sem,e1,e3,e5,e6,e8,e9,m0,m1,hlt1,hlt2,qe,QE.tk,pc,hpush,dgOf,har',hg1,hset2,e6];exact .hf _ (js (42,n.pos))
   ·simp [go_sem,e1,e3,e5,e6,e8,e9,m0,m1,hlt1,hlt2,qj]
    refine qc.pure hi (wkE c true _ _) ?_;cases hx:exam c s true n.kids[k] with
    |error e =>
     rw [hx] at hE;subst hE;have he:=uX c (szN n.kids[k]) n.kids[k] s true e (qo _) hx;have he0:¬e.1=0:=by omega
     simp [go_sem,e1,e3,e5,e6,e8,e9,m0,m1,hlt1,hlt2,qe,QE.tk,pc,hpush,he0,dgOf];rw [if_pos (qw _)];generalize hP:putCells _ 0 (aI S.1 :: hB S.2)=P;have hP2:P=aI S.1 :: hB S.2:=by rw [←hP];exact pc (aI 0) _ (fun _=>false) _
     subst hP2;clear hP;simp [go_sem,e1,e3,e5,e6,e8,e9,m0,m1,hlt1,hlt2,qe,QE.tk,pc,hpush,he0,dgOf];simp [go_sem,hg1,hset2,e6];exact .hf _ (js e)
    |ok ko =>
     obtain ⟨q,rfl,hq⟩:=hok ko (qo _) hwk' hs hx hkk;have hSq:=hS hkk q hx;subst hSq;rw [hx] at hE;simp only at hE;have hns:=hc.ts.ns;have haq:(ql q).1=q.ar:=rfl;have hag:=fun h=>kV hns hq h pd.params[k].2
     generalize ql q=Q at *
     simp [go_sem,e1,e3,e5,e6,e8,e9,m0,m1,hlt1,hlt2,qe,QE.tk,pc,hpush,dgOf];rw [if_pos (qw _)];generalize hP:putCells _ 0 (aI Q.1 :: hB Q.2)=P;have hP2:P=aI Q.1 :: hB Q.2:=by rw [←hP];exact pc (aI 0) _ (fun _=>false) _
     subst hP2;clear hP;by_cases har:q.ar=1
     ·rw [if_pos har] at hE
      have har':Q.1=1:=haq.trans har;simp [go_sem,e1,e3,e5,e6,e8,e9,m0,m1,hlt1,hlt2,qe,QE.tk,pc,hpush,dgOf,har'];have hfst:pd.params[k].2<4∧0≤pd.params[k].2:=by have:=hpd.2 _ (qr hlt1);omega
      refine qk.upK 4 (fun j st'=>∃ b,2≤b∧st'.tm 10 = .ptr b 0∧st'.mu[b]?=some (.arr (aI 1 :: hB Q.2))∧st'.tm 1=lVr (envS s)∧st'.tm 3 = .ptr 0 0∧st'.tm 5 = .ip (cNd n)∧st'.tm 6 = .ptr 1 0∧st'.tm 8=lPm pd.params∧st'.tm 9=aI k∧st'.tm 12=aI j∧st'.mu[0]?=some (.arr (cVw c true))∧st'.mu[1]?=some (.arr [aI 0,aI 0]) ∧
       ∀ i:Nat,i<j→Q.2 i=true→(i:Int)=pd.params[k].2) ?_ ?_
      ·exact ⟨st.mu.length+1,by omega,by simp [go_sem],by simp [go_sem],by simp [go_sem,e1],by simp [go_sem,e3],by simp [go_sem,e5],by simp [go_sem,e6],by simp [go_sem,e8],by simp [go_sem,e9],by simp [go_sem],by simp only [qD];rw [hpush _ _ (by omega)];exact m0,by simp only [qD];rw [hpush _ _ (by omega)];exact m1,fun i hi=>by omega⟩
      ·clear e1 e3 e5 e6 e8 e9 m0 m1 hpush hset hset2 hg0 hg1 hml
       rintro j st2 hj ⟨b,hb,e10,mb,e1,e3,e5,e6,e8,e9,e12,m0,m1,hall⟩;have hml:1<st2.mu.length:=(qh.1 m1).1;have hset:∀ c,(st2.mu.set 1 c)[1]?=some c:=fun c=>qR hml
       by_cases hj4:j<4
       ·have hjl:(j:Int)<4:=by omega
        have hj64:j<64:=by omega
        have hj64':(j:Int)<64:=by omega
        have wj:IntKind.i64.wrap ((j:Int)+1)=(j:Int)+1:=qg (by omega) (by omega);have hd1:=d1 (aI 1) Q.2 j hj64;have hi1:1+j≤64:=by omega
        by_cases hQ:Q.2 j=true
        ·rw [hQ] at hd1
         by_cases hq2:(j:Int)=pd.params[k].2
         ·have hq3:=eq_true hq2
          simp [go_sem,e10,mb,e1,e3,e5,e6,e8,e9,e12,hjl,hj64,hj64',hd1,hi1,qe,hlt1,hq3,wj];refine ⟨hj4,Keep.mk' ⟨b,hb,by simp [go_sem,e10],by simp [go_sem,mb],by simp [go_sem,e1],by simp [go_sem,e3],by simp [go_sem,e5],by simp [go_sem,e6],by simp [go_sem,e8],by simp [go_sem,e9],by simp [go_sem],by simp [go_sem,m0],by simp [go_sem,m1],fun i hi h=>?_⟩⟩;by_cases hij:i=j
          ·subst hij;exact hq2
          ·exact hall i (by omega) h
         ·have hbad:¬jQ pd.params[k].2 q=true:=fun h=>hq2 ((hag har).1 h j hj4 hQ)
          rw [if_neg hbad] at hE;subst hE;simp [go_sem,e10,mb,e1,e3,e5,e6,e8,e9,e12,hjl,hj64,hj64',hd1,hi1,qe,hlt1,hq2,wj,m1,hset];exact .hf _ (js (43,n.pos))
        ·have hQ:Q.2 j=false:=by simpa using hQ
         rw [hQ] at hd1;simp [go_sem,e10,mb,e1,e3,e5,e6,e8,e9,e12,hjl,hj64,hj64',hd1,hi1,qe,hlt1,wj];refine ⟨hj4,Keep.mk' ⟨b,hb,by simp [go_sem,e10],by simp [go_sem,mb],by simp [go_sem,e1],by simp [go_sem,e3],by simp [go_sem,e5],by simp [go_sem,e6],by simp [go_sem,e8],by simp [go_sem,e9],by simp [go_sem],by simp [go_sem,m0],by simp [go_sem,m1],fun i hi h=>?_⟩⟩;by_cases hij:i=j
         ·subst hij;rw [hQ] at h;cases h
         ·exact hall i (by omega) h
       ·have hje:j=4:=by omega
        subst hje;have hgood:jQ pd.params[k].2 q=true:=(hag har).2 fun i hi h=>hall i hi h
        rw [if_pos hgood] at hE;simp [go_sem,e10,mb,e1,e3,e5,e6,e8,e9,e12,w1];exact ⟨hlt1,Keep.mk' ⟨by simp [go_sem,e1],by simp [go_sem,e3],by simp [go_sem,e5],by simp [go_sem,e6],by simp [go_sem,e8],by simp [go_sem],by simp [go_sem,m0],by simp [go_sem,m1],hE⟩⟩
     ·rw [if_neg har] at hE
      subst hE;have har':¬Q.1=1:=fun e=>har (haq.symm.trans e)
      simp [go_sem,e1,e3,e5,e6,e8,e9,m0,m1,hlt1,hlt2,qe,QE.tk,pc,hpush,dgOf,har',hg1,hset2,e6];exact .hf _ (js (42,n.pos))
  ·rw [if_neg hpl] at hR
   subst hR;have hpl':¬n.kids.length=pd.params.length:=fun e=>hpl e.symm
   simp [go_sem,hpl',dgOf];exact .hf _ (js (45,n.pos))
end Go.Proofs.YtkglmpmlfjogkaaGreatDoor.QO


namespace Go.Proofs.YtkglmpmlfjogkaaGreatDoor.QR
open Go Go.Ev Go.Proofs Go.Proofs.YtkglmpmlfjogkaaGreatDoor YM YF Y9 Y10 Y1 Y2 Y3 Y12 Y13 P1 P2 PA PB QD QE QF QG QH QI QJ QK QL QM QN PG QO
theorem kZ {n:Nd} (hw:WfN n) (h:n.op=15∨n.op=45∨n.op=46):∃ a f,n.kids=[a,f]∧kd a.op=101:=by
 have hs:=hw.shape;unfold shp at hs;rw [if_neg (by omega),if_neg (by omega),if_neg (by omega),if_pos (by omega)] at hs;simp only [Option.some.injEq] at hs
 match hk:n.kids,hs with
 | [a,f],hs =>
  simp at hs;exact ⟨a,f,rfl,hs.1.symm⟩
 | [],hs=>simp at hs
 | [_],hs=>simp at hs
 |_ :: _ :: _ :: _,hs=>simp at hs
theorem five {α:Type} {l:List α} {a b c d e:α} (h0:l[0]?=some a) (h1:l[1]?=some b) (h2:l[2]?=some c) (h3:l[3]?=some d) (h4:l[4]?=some e):∃ r,l=a :: b :: c :: d :: e :: r:=by
 match l,h0,h1,h2,h3,h4 with
 |_ :: _ :: _ :: _ :: _ :: r,h0,h1,h2,h3,h4 =>
  simp at h0 h1 h2 h3 h4;exact ⟨r,by rw [h0,h1,h2,h3,h4]⟩
def ZE:Res→RS
 | .ok (some k)=>if k.ar=1 then ql k else zR
 |_=>zR
theorem qe9 (s:RS) (d:Dg):FL (.tup [eRS s,eDg d]):=FL.tup fun x hx=>by
 rcases qv.1 hx with rfl | hx
 ·exact FL.agg fun c hc=>by
   rcases qv.1 hc with rfl | hc
   ·exact FL.sc _
   ·obtain ⟨j,_,rfl⟩:=qn.1 hc
    exact FL.sc _
 ·rw [qK] at hx;subst hx
  exact FL.agg fun c hc=>by
   rcases qv.1 hc with rfl | hc
   ·exact FL.sc _
   ·rw [qK] at hc;subst hc;exact FL.sc _
theorem qfA (c:Ck) (hc:okCk c) (s:Scp) (hs:ScOk c.ts.sorts.length s) (hsl:s.length≤90000) (n a g:Nd) (hw:WfN n) (hb:n.op=15∨n.op=45∨n.op=46) (hks:n.kids=[a,g]) (hka:kd a.op=101) (inn:Bool)
  (iha:ExR c s (inn||decide (n.op=15)) a) (ihg:∀ k,okKd c.ts.sorts.length k→k.ar=1→ExR c ((n.name,k) :: s) (inn||decide (n.op=15)) g) :
  qi Tryz.prog 229 [eVw c inn,lVr (envS s),eNd n] (.tup [eRS (ZE (exam c s (inn||decide (n.op=15)) a)),eDg (dgOf (yd c s (inn||decide (n.op=15)) n.name n.pos n.kids))]):=by
 have wa:=hw.kid (k:=a) (by rw [hks];simp);obtain ⟨S,ca,hS⟩:=iha;have hok:=vQ hc (szN a) a s (inn||decide (n.op=15));have herr:=uX c (szN a) a s (inn||decide (n.op=15));rw [hks];have w1:=wkE c (inn||decide (n.op=15)) (envS s) a;have hB2:n.op=15→(inn||decide (n.op=15))=true:=fun h=>by simp [h]
 have hB3:¬n.op=15→(inn||decide (n.op=15))=inn:=fun h=>by simp [h]
 generalize (inn||decide (n.op=15))=B at *
 generalize hE:dgOf (yd c s B n.name n.pos [a,g])=E;generalize hX:exam c s B a=X at *
 have ihg2:∀ k,okKd c.ts.sorts.length k→k.ar=1→X = .ok (some k)→∃ S2,qi Tryz.prog 196 [eVw c B,lVr (envS ((n.name,k) :: s)),eNd g] (.tup [eRS S2,eDg E]):=fun k hk har hXk=>by
  obtain ⟨S2,cg,_⟩:=ihg k hk har;refine ⟨S2,?_⟩;have hEe:E=dgOf (exam c ((n.name,k) :: s) B g):=by
   rw [←hE];simp only [yd,q6];rw [hX,hXk];simp only;rw [if_pos har];cases exam c ((n.name,k) :: s) B g<;>rfl
  rw [hEe];exact cg
 refine qSQ Tryz.call229 Tryz.func229 rfl { mt:=[3] } ?_;by_cases h15:n.op=15
 case' pos =>
  have hBt:=hB2 h15;subst hBt
 case' neg =>
  have hBt:=hB3 h15;subst hBt
 all_goals
  simp [go_sem,h15,hks,qj];refine qd.seg [0,1,2,3,4,5,6,7,8,9,10,11,12,13] [(0,0,[]),(1,0,[]),(2,0,[]),(3,0,[]),(4,0,[]),(5,0,[]),(6,1,[]),(7,0,[]),(8,0,[]),(9,0,[]),(10,2,[0,3,5]),(11,2,[0,3,5]),(12,1,[]),(13,1,[])] (by kernel_rfl) (by kernel_rfl) (by simp [go_sem]) ?_;simp [go_sem,h15,hks,qj];refine qc.pure ca w1 ?_;simp [go_sem,qe,tk,pc,hks,qj];rw [if_pos (qw _)];generalize hP:putCells _ 0 (aI S.1 :: hB S.2)=P;have hP2:P=aI S.1 :: hB S.2:=by rw [←hP];exact pc (aI 0) _ (fun _=>false) _
  subst hP2;clear hP;simp [go_sem,qe,tk,pc]
 all_goals
  cases X with
  |error e =>
   have he:=herr e (qo _) rfl;have he0:¬e.1=0:=by omega
   have hEe:E=e:=by rw [←hE];simp only [yd];rw [hX];rfl
   subst hEe;clear hE;simp [go_sem,dgOf,he0];refine qd.float [] [0,1] [(2,true),(3,false)] (by kernel_rfl) (by kernel_rfl) (by kernel_rfl) ?_;simp [go_sem,dgOf,he0];exact .hf _ (zr zR E)
  |ok ko =>
   obtain ⟨q,rfl,hq⟩:=hok ko (qo _) wa hs rfl hka;have hSq:=hS hka q rfl;subst hSq;have haq:(ql q).1=q.ar:=rfl;by_cases har:q.ar=1
   ·have har':(ql q).1=1:=haq.trans har
    obtain ⟨S2,cg⟩:=ihg2 q hq har rfl;have hbs:ZE (.ok (some q))=ql q:=if_pos har;rw [hbs];have henv:envS ((n.name,q) :: s)=envS s++[(n.name,ql q)]:=by simp [envS]
    rw [henv] at cg;generalize ql q=Q at *
    obtain ⟨qa,qf⟩:=Q;have har'':qa=1:=har';subst har'';simp [go_sem,dgOf];refine qd.seg [0,1,2,4,5,6,7,8,10,11,12,13,3,9,14,15,16,17,18,19,20,21] [(0,0,[]),(1,0,[]),(2,0,[]),(4,0,[]),(5,0,[]),(6,0,[]),(7,0,[]),(8,0,[]),(10,0,[]),(11,0,[]),(12,0,[]),(13,0,[]),(3,1,[0,5,6,11,13]),(9,1,[0,11,13]),(14,1,[]),(15,0,[]),(16,0,[]),(17,0,[]),(18,2,[0,5,6,11,13]),(19,2,[0,5,6,11,13]),(20,1,[]),(21,1,[])] (by kernel_rfl) (by kernel_rfl) (by simp [go_sem]) ?_;simp [go_sem,dgOf,qe,tk,pc,hks,qj];rw [if_pos (qw _)];generalize hC:putCells _ 1 _=C;have hC2:C=cVr (n.name,(1,qf)):=by rw [←hC];exact pcV n.name (1,qf)
    subst hC2;clear hC;have hcl:(cVr (n.name,((1:Int),qf))).length=66:=by simp [qe]
    have hco:=UF (n.name,((1:Int),qf));generalize hV:cVr (n.name,((1:Int),qf))=V at *
    simp [go_sem,dgOf,qe,tk,pc,hks,qj,hcl];rw [if_pos hco];simp [go_sem,dgOf,qe,tk,pc,hks,qj,hcl];refine UH (lo:=5) (xs:=[]) (ys:=envS s) (OwnF.nil (by simp)) (by simp [qE]) (by simp [Jn];omega) fun av1 m1 ho1 hm1=>?_
    have k0:=hm1 0 (by omega);have k1:=hm1 1 (by omega);have k2:=hm1 2 (by omega);have k3:=hm1 3 (by omega);have k4:=hm1 4 (by omega);simp at k0 k1 k2 k3 k4;simp [go_sem,dgOf,qe,tk,pc,hks,qj,k0,k1,k2,k3,k4];refine UH (xs:=[]++envS s) (ys:=[(n.name,(1,qf))]) ho1 (by simp [qE,hV]) (by simp [Jn];omega) fun av2 m2 ho2 hm2=>?_
    rw [List.nil_append] at ho2;have hml:=ho2.2.2;replace k0:=(hm2 0 (by omega)).trans k0;replace k1:=(hm2 1 (by omega)).trans k1;replace k2:=(hm2 2 (by omega)).trans k2;replace k3:=(hm2 3 (by omega)).trans k3;replace k4:=(hm2 4 (by omega)).trans k4;have hpush:∀(l:List Cell) (i:Nat),i<m2.length→(m2++l)[i]?=m2[i]?:=fun l i hi=>qm hi
    have g0:=(qh.1 k0).2;have g1:=(qh.1 k1).2;have g2:=(qh.1 k2).2;have g3:=(qh.1 k3).2;simp [go_sem,dgOf,qe,tk,pc,hks,qj,k0,k1,k2,k3,k4];refine qc.lend (args':=[eVw c _,lVr (envS s++[(n.name,(1,qf))]),eNd g]) cg ⟨.hf _ (kW c _),rdVr ho2,.hf _ (qB g),trivial⟩ (qe9 S2 _) ?_;have p0:=fun l=>(hpush l 0 (by omega)).trans k0
    have p1:=fun l=>(hpush l 1 (by omega)).trans k1
    have p2:=fun l=>(hpush l 2 (by omega)).trans k2
    have p3:=fun l=>(hpush l 3 (by omega)).trans k3
    have p4:=fun l=>(hpush l 4 (by omega)).trans k4
    have hl0:0<m2.length:=by omega
    have hl3:3<m2.length:=by omega
    simp [go_sem,dgOf,qe,tk,pc,hks,qj,k0,k1,k2,k3,k4,g0,g1,g2,g3,hl0,hl3,p0,p1,p2,p3,p4];rw [if_pos (qw _)];generalize hP:putCells _ 0 (cRS S2)=P;have hP2:P=cRS S2:=by rw [←hP];exact pc (aI 0) _ (fun _=>false) _
    subst hP2;clear hP;simp [go_sem,dgOf,qe,tk,pc,hks,qj,k0,k1,k2,k3,k4,g0,g1,g2,g3,hl0,hl3,p0,p1,p2,p3,p4];obtain ⟨rr,hrr⟩:=five k0 k1 k2 k3 k4;have hrl:m2.length=rr.length+5:=by rw [hrr];rfl
    clear g0 g1 g2 g3 p0 p1 p2 p3 p4 hpush ho2 hm2 k0 k1 k2 k3 k4 hml hl0 hl3;refine qd.seg [0,1,2,3] [(0,0,[]),(1,0,[]),(2,1,[1]),(3,1,[])] (by kernel_rfl) (by kernel_rfl) (by simp [go_sem]) ?_;simp [go_sem,dgOf,qe,tk,pc,hks,qj,hrr];rw [if_pos (qw _)];generalize hP:putCells _ 0 (aI 1 :: hB qf)=P;have hP2:P=aI 1 :: hB qf:=by rw [←hP];exact pc (aI 0) (aI 1) (fun _=>false) qf
    subst hP2;clear hP;simp [go_sem,dgOf,qe,tk,pc,hks,qj,hrr];exact .hf _ (zr (1,qf) E)
   ·have har':¬(ql q).1=1:=fun e=>har (haq.symm.trans e)
    have hbs:ZE (.ok (some q))=zR:=if_neg har;rw [hbs];have hEe:E=(42,n.pos):=by
     rw [←hE];simp only [yd];rw [hX];simp only;rw [if_neg har];rfl
    subst hEe;clear hE;generalize ql q=Q at *
    simp [go_sem,dgOf,har'];refine qd.float [] [0,1,2,3] [(4,true),(5,false)] (by kernel_rfl) (by kernel_rfl) (by kernel_rfl) ?_;simp [go_sem,dgOf];exact .hf _ (zr zR (42,n.pos))
theorem qfB (ts:TS) (ok:okTS ts) (n:Nd) (l:List (Option Kd)) (e1:n.op≠1) (e15:n.op≠15)
  (h1:n.op=5∨n.op=11∨n.op=12∨n.op=13→∃ a,l=[some a]∧okKd ts.sorts.length a)
  (h2:n.op=6∨n.op=14∨n.op=7∨n.op=8∨n.op=32∨n.op=33∨n.op=9∨n.op=10→∃ a b,l=[some a,some b]∧okKd ts.sorts.length a∧okKd ts.sorts.length b) :
  ∃ S b,(∀ L:List RS,((n.op=5∨n.op=11∨n.op=12∨n.op=13)∨(n.op=6∨n.op=14∨n.op=7∨n.op=8∨n.op=32∨n.op=33∨n.op=9∨n.op=10)→L=l.map setO)→prC ts n L S b)∧ApE n.op (zJ ts.sorts.length n.op n.n n.pos l) S b:=by
 by_cases hr:(n.op=5∨n.op=11∨n.op=12∨n.op=13)∨(n.op=6∨n.op=14∨n.op=7∨n.op=8∨n.op=32∨n.op=33∨n.op=9∨n.op=10)
 ·obtain ⟨S,b,c,a⟩:=qe6 ts ok n l (l.map setO) e1 e15 (fun h=>by obtain ⟨a,rfl,ha⟩:=h1 h;exact ⟨a,rfl,rfl,ha⟩) (fun h=>by obtain ⟨a,b,rfl,ha,hb⟩:=h2 h;exact ⟨a,b,rfl,rfl,ha,hb⟩)
  exact ⟨S,b,fun L hL=>by rw [hL hr];exact c,a⟩
 by_cases o2:n.op=2
 ·refine ⟨ql ⟨n.n,[]⟩,true,fun L _=>kU (kR n.n) (ap2 ts n L o2),?_⟩
  unfold zJ;rw [if_pos o2];exact ⟨rfl,fun _=>⟨_,rfl,rfl⟩⟩
 by_cases o3:n.op=3
 ·refine ⟨_,true,fun L _=>ap3 ts ok n L o3,?_⟩
  unfold zJ;rw [if_neg o2,if_pos o3];exact ⟨rfl,fun _=>⟨_,rfl,rfl⟩⟩
 by_cases o4:n.op=4
 ·refine ⟨_,true,fun L _=>ap4 ts ok n L o4,?_⟩
  unfold zJ;rw [if_neg o2,if_neg o3,if_pos o4];exact ⟨rfl,fun _=>⟨_,rfl,rfl⟩⟩
 refine ⟨zR,true,fun L _=>apO ts n L o2 o3 o4 (by omega) (by omega) (by omega) (by omega) (by omega) (by omega) (by omega) (by omega) (by omega) (by omega) (by omega) (by omega),?_⟩;rw [VU o2 o3 o4 (by omega) (by omega) (by omega) (by omega) (by omega) (by omega) (by omega) (by omega) (by omega) (by omega) (by omega) (by omega)];refine ⟨rfl,fun hk=>?_⟩;have:=VW hk;omega
def resS:Res→RS
 | .ok (some k)=>ql k
 |_=>zR
theorem qfC (R:Res):endR zR R = .tup [eRS (resS R),eDg (dgOf R)]:=by
 cases R with
 |error e=>rfl
 |ok k=>cases k<;>rfl
end Go.Proofs.YtkglmpmlfjogkaaGreatDoor.QR


namespace Go.Proofs.YtkglmpmlfjogkaaGreatDoor.QS
open Go Go.Ev Go.Proofs Go.Proofs.YtkglmpmlfjogkaaGreatDoor YM YZ YF Y9 Y10 Y1 Y2 Y3 Y12 Y13 P1 P2 PA PB QD QE QF QG QH QI QJ QK QL QM QN PG QO QR
theorem Jo (c:Ck) (op:Int) (nm:ByteArray):zY c op nm=(zA op||(decide (op=47)&&tpB c nm)):=rfl
theorem qfD {ns:Nat} {op n pos:Int} {l:List (Option Kd)} {e:Dg} (h:zJ ns op n pos l = .error e):e=(42,pos):=by
 unfold zJ at h
 repeat' split at h
 all_goals first
  | (cases h;done)
  | (cases h;rfl)
theorem wkTP (c:Ck) (nm:ByteArray):WKs [eTS c.ts,lBo c.timed,aI c.calls,aS nm] [eTS c.ts,lBo c.timed,aI c.calls,aS nm] := .cons (.hf (ze _)) (.cons (.hf (ZC _)) (.cons (.hf (HF.sc _)) (.cons (.hf (HF.sc _)) .nil)))
theorem wk1I (k:Int):WKs [aI k] [aI k] := .cons (.hf (HF.sc _)) .nil
theorem w7 (s:RS) (b:Bool):FL (.tup [eRS s,aB b]):=FL.tup fun x hx=>by
 rcases qv.1 hx with rfl | hx
 ·exact FL.agg fun c hc=>by
   rcases qv.1 hc with rfl | hc
   ·exact FL.sc _
   ·obtain ⟨j,_,rfl⟩:=qn.1 hc
    exact FL.sc _
 ·rw [qK] at hx;subst hx;exact FL.sc _
theorem qfE (c:Ck) (hc:okCk c) (s:Scp) (n:Nd) (ht:zY c n.op n.name=true):ExR c s true n:=by
 refine ⟨zR,?_,fun _ q h=>?_⟩
 case refine_2=>rw [jE,if_pos (by simp [ht])] at h;cases h
 have hx:exam c s true n = .error (46,n.pos):=by rw [jE,if_pos (by simp [ht])]
 rw [hx];rw [Jo] at ht;refine qSQ Tryz.call196 Tryz.func196 rfl { mt:=[3] } ?_;have ct:=jA n.op;have cp:=jV c hc n.name;simp [go_sem];refine qc.pure ct (wk1I _) ?_;cases hT:zA n.op with
 |true =>
  simp [go_sem];refine qd.float [] [0,1,2,3] [(4,true),(5,false)] (by kernel_rfl) (by kernel_rfl) (by kernel_rfl) ?_;simp [go_sem,dgOf];exact .hf _ (zr zR (46,n.pos))
 |false =>
  rw [hT,Bool.false_or,Bool.and_eq_true] at ht;obtain ⟨h47,hB⟩:=ht;have h47:n.op=47:=by simpa using h47
  simp [go_sem,h47];refine qc.pure cp (wkTP c n.name) ?_;rw [hB];simp [go_sem];refine qd.float [] [0,1,2,3] [(4,true),(5,false)] (by kernel_rfl) (by kernel_rfl) (by kernel_rfl) ?_;simp [go_sem,dgOf];exact .hf _ (zr zR (46,n.pos))
theorem qfF (c:Ck) (hc:okCk c) (s:Scp) (hsl:s.length≤100000) (inn:Bool) (n:Nd) (h1:n.op=1):ExR c s inn n:=by
 have hx:exam c s inn n=yp c s n.name n.pos:=by
  rw [jE,Jo,h1,show zA 1=false from rfl];simp
 refine ⟨resS (yp c s n.name n.pos),?_,fun _ q h=>by rw [hx] at h;rw [h];rfl⟩;rw [hx];have cn:=VS c hc inn s n hsl;rw [qfC] at cn;generalize resS (yp c s n.name n.pos)=S at *
 generalize dgOf (yp c s n.name n.pos)=D at *
 refine qSQ Tryz.call196 Tryz.func196 rfl { mt:=[3] } ?_;have ct:=jA n.op;have cp:=jV c hc n.name;have hT:zA n.op=false:=by rw [h1];rfl
 rw [hT] at ct;have wn:=wkE c inn (envS s) n;cases inn
 case' true =>
  simp [go_sem];refine qc.pure ct (wk1I _) ?_
 all_goals
  simp [go_sem,h1];refine qc.pure cn wn ?_;simp [go_sem,qe,QE.tk,pc];rw [if_pos (qw _)];generalize hP:putCells _ 0 (aI S.1 :: hB S.2)=P;have hP2:P=aI S.1 :: hB S.2:=by rw [←hP];exact pc (aI 0) _ (fun _=>false) _
  subst hP2;clear hP;simp [go_sem,qe,QE.tk,pc];exact .hf _ (zr S D)
theorem qfG (c:Ck) (hc:okCk c) (s:Scp) (hs:ScOk c.ts.sorts.length s) (inn:Bool) (n:Nd) (hw:WfN n) (h47:n.op=47) (ht:(inn&&zY c n.op n.name)=false) (ih:∀ k,k∈n.kids→ExR c s true k):ExR c s inn n:=by
 have hx:exam c s inn n=jT c s n:=by
  rw [jE,ht,if_neg (by simp),if_neg (by omega),if_pos h47];rfl
 have cc:=qe8 c hc s hs n hw h47 ih inn;refine ⟨zR,?_,fun hk=>by rw [h47] at hk;exact absurd hk (by decide)⟩;rw [hx];generalize dgOf (jT c s n)=D at *
 refine qSQ Tryz.call196 Tryz.func196 rfl { mt:=[3] } ?_;have ct:=jA n.op;have cp:=jV c hc n.name;have hT:zA n.op=false:=by rw [h47];rfl
 rw [hT] at ct;have wn:=wkE c inn (envS s) n;cases inn
 case' true =>
  rw [Bool.true_and,Jo,hT,h47] at ht;have hB:tpB c n.name=false:=by simpa using ht
  rw [hB] at cp;simp [go_sem];refine qc.pure ct (wk1I _) ?_;simp [go_sem,h47];refine qc.pure cp (wkTP c n.name) ?_
 all_goals
  simp [go_sem,h47];refine qc.pure cc wn ?_;simp [go_sem];exact .hf _ (zr zR D)
theorem qfH (c:Ck) (hc:okCk c) (s:Scp) (hs:ScOk c.ts.sorts.length s) (hsl:s.length≤90000) (inn:Bool) (n:Nd) (hw:WfN n) (hb:n.op=15∨n.op=45∨n.op=46) (ht:(inn&&zY c n.op n.name)=false) (ih:∀ k,k∈n.kids→∀ s',ScOk c.ts.sorts.length s'→s'.length≤s.length+1→∀ inn,ExR c s' inn k):ExR c s inn n:=by
 have hx:exam c s inn n=yd c s (inn||decide (n.op=15)) n.name n.pos n.kids:=by
  rw [jE,ht,if_neg (by simp),if_neg (by omega),if_neg (by omega),if_pos hb]
 obtain ⟨a,g,hks,hka⟩:=kZ hw hb;have cb:=qfA c hc s hs hsl n a g hw hb hks hka inn (ih a (by rw [hks];simp) s hs (by omega) _) (fun k hk har=>ih g (by rw [hks];simp) _ (fun v hv=>by
  rcases qv.1 hv with rfl | hv
  ·exact ⟨hk,har⟩
  ·exact hs v hv) (by simp) _)
 refine ⟨ZE (exam c s (inn||decide (n.op=15)) a),?_,fun _ q h=>?_⟩
 case refine_2 =>
  rw [hx,hks] at h;simp only [yd] at h;split at h
  ·cases h
  ·cases h
  ·rename_i k hk
   split at h
   ·rename_i har
    split at h
    ·cases h
    ·cases h
     rw [hk];exact if_pos har
   ·cases h
 rw [hx];generalize ZE (exam c s (inn||decide (n.op=15)) a)=S at *
 generalize dgOf (yd c s (inn||decide (n.op=15)) n.name n.pos n.kids)=D at *
 refine qSQ Tryz.call196 Tryz.func196 rfl { mt:=[3] } ?_;have ct:=jA n.op;have cp:=jV c hc n.name;have h47:¬n.op=47:=by omega
 have hT:zA n.op=false:=by unfold zA;rcases hb with h | h | h<;>rw [h]<;>decide
 rw [hT] at ct;have wn:=wkE c inn (envS s) n;rcases hb with h | h | h
 all_goals
  rw [h] at ct;cases inn
 all_goals
  simp [go_sem,h]
  try (refine qc.pure ct (wk1I _) ?_)
  try simp [go_sem,h]
  refine qc.pure cb wn ?_;simp [go_sem,qe,QE.tk,pc];rw [if_pos (qw _)];generalize hP:putCells _ 0 (aI S.1 :: hB S.2)=P;have hP2:P=aI S.1 :: hB S.2:=by rw [←hP];exact pc (aI 0) _ (fun _=>false) _
  subst hP2;clear hP;simp [go_sem,qe,QE.tk,pc];exact .hf _ (zr S D)
def seqL (X:Nd→Res):List Nd→Except Dg (List (Option Kd))
 | [] => .ok []
 |k :: ks=>match X k with
  | .error e => .error e
  | .ok a=>match seqL X ks with
   | .error e => .error e
   | .ok l => .ok (a :: l)
theorem k5 (c:Ck) (s:Scp) (B:Bool):∀ ks:List Nd,q6 c s B ks=seqL (exam c s B) ks
 | []=>by simp only [q6,seqL]
 |k :: ks=>by simp only [q6,seqL];rw [k5 c s B ks];cases exam c s B k with
  |error e=>rfl
  |ok a=>cases seqL (exam c s B) ks<;>rfl
theorem Qa {α:Type} {l:List α} {a b c:α} (h0:l[0]?=some a) (h1:l[1]?=some b) (h2:l[2]?=some c):∃ r,l=a :: b :: c :: r:=by
 match l,h0,h1,h2 with
 |_ :: _ :: _ :: r,h0,h1,h2 =>
  simp at h0 h1 h2;exact ⟨r,by rw [h0,h1,h2]⟩
theorem Qb {n:Nd} (hw:WfN n) (h:(n.op=5∨n.op=11∨n.op=12∨n.op=13)∨(n.op=6∨n.op=14∨n.op=7∨n.op=8∨n.op=32∨n.op=33∨n.op=9∨n.op=10)):∀ x,x∈n.kids→kd x.op=101:=by
 have hs:=hw.shape;intro x hx;have hm:kd x.op∈n.kids.map fun k=>kd k.op:=qn.2 ⟨x,hx,rfl⟩
 rcases h with h | h
 ·unfold shp at hs
  rw [if_neg (by omega),if_pos (by omega)] at hs;simp only [Option.some.injEq] at hs;rw [←hs] at hm;simpa using hm
 ·unfold shp at hs
  rw [if_neg (by omega),if_neg (by omega),if_pos (by omega)] at hs;simp only [Option.some.injEq] at hs;rw [←hs] at hm;simpa using hm
theorem qfI (c:Ck) (hc:okCk c) (s:Scp) (n:Nd) (B:Bool) (X:Nd→Res) (S:RS) (D:Dg) (h1:¬n.op=1) (h47:¬n.op=47) (hb:¬(n.op=15∨n.op=45∨n.op=46)) (hw:WfN n) (hkl:n.kids.length≤401) (hT:zA n.op=false) (h12:n.op=12) (h13:¬n.op=13) (hBt:B=true)
  (hX1:∀ k,k∈n.kids→∃ S,qi Tryz.prog 196 [eVw c B,lVr (envS s),eNd k] (.tup [eRS S,eDg (dgOf (X k))])∧(kd k.op=101→∀ q,X k = .ok (some q)→S=ql q))
  (hXok:∀ k a,k∈n.kids→X k = .ok a→kd k.op=101→∃ q,a=some q∧okKd c.ts.sorts.length q)
  (hXerr:∀ k e,X k = .error e→40≤e.1)
  (hfe:∀ e,seqL X n.kids = .error e→S=zR∧D=e)
  (hfo:∀ l,seqL X n.kids = .ok l→∃ S' b,(∀ L:List RS,((n.op=5∨n.op=11∨n.op=12∨n.op=13)∨(n.op=6∨n.op=14∨n.op=7∨n.op=8∨n.op=32∨n.op=33∨n.op=9∨n.op=10)→L=l.map setO)→prC c.ts n L S' b)∧(b=true→S=S'∧D=(0,0))∧(b=false→S=zR∧D=(42,n.pos))) :
  qi Tryz.prog 196 [eVw c true,lVr (envS s),eNd n] (.tup [eRS S,eDg D]):=by
 simp only [not_or] at hb;obtain ⟨b1,b2,b3⟩:=hb;refine qSQ Tryz.call196 Tryz.func196 rfl { mt:=[3] } ?_;have ct:=jA n.op;have cp:=jV c hc n.name;rw [hT] at ct;simp [go_sem];refine qc.pure ct (wk1I _) ?_;simp [go_sem,h1,h47,b1,b2,b3];simp [go_sem,h12];refine qk.upK n.kids.length (fun k st=>∃(acc:List (Option Kd)) (L:List RS),acc.length=k∧L.length=k∧st.tm 1=lVr (envS s)∧st.tm 3 = .ptr 0 0∧st.tm 5 = .ip (cNd n)∧st.tm 6 = .ptr 1 0∧st.tm 7 = .ptr 2 0∧st.tm 9=aI k∧st.mu[0]?=some (.arr (cVw c B))∧st.mu[1]?=some (.arr (aI 0 :: hB fun _=>false))∧st.mu[2]?=some (.arr [aI 0,aI 0])∧OwnF 3 st.mu 65 (st.tm 8) (L.map cRS)∧(∀(i:Nat) x,n.kids[i]?=some x→i<k→kd x.op=101→∃ q,acc[i]?=some (some q)∧L[i]?=some (ql q))∧seqL X n.kids=(match seqL X (n.kids.drop k) with | .error e => .error e | .ok l => .ok (acc++l))) ?_ ?_
 ·refine ⟨[],[],rfl,rfl,by simp [go_sem],by simp [go_sem],by simp [go_sem],by simp [go_sem],by simp [go_sem],by simp [go_sem],by rw [hBt];simp [go_sem],by simp [go_sem];rfl,by simp [go_sem],by simp [go_sem];exact OwnF.nil (by simp),fun i x _ h=>absurd h (by omega),?_⟩
  simp only [List.drop_zero,List.nil_append];cases seqL X n.kids<;>rfl
 rintro k st hk ⟨acc,L,hal,hll,e1,e3,e5,e6,e7,e9,m0,m1,m2,ho,hrel,hE⟩;generalize h8:st.tm 8=av at *
 by_cases hlt:k<n.kids.length
 ·have w1:IntKind.i64.wrap ((k:Int)+1)=(k:Int)+1:=qg (by omega) (by omega)
  obtain ⟨Sk,ck,hk1⟩:=hX1 n.kids[k] (qr hlt);rw [qX hlt] at hE;simp only [seqL] at hE;simp [go_sem,e1,e3,e5,e6,e7,e9,h8,hlt,qj];refine qd.seg [0,1,2,3,4,5,6,7,8,9,10,11,12,13,14] [(0,0,[]),(1,0,[]),(2,0,[]),(3,0,[]),(4,0,[]),(5,0,[]),(6,0,[]),(7,1,[]),(8,0,[]),(9,0,[]),(10,0,[]),(11,2,[0,3,6]),(12,2,[0,3,6]),(13,1,[]),(14,1,[])] (by kernel_rfl) (by kernel_rfl) (by simp [go_sem]) ?_;have hml:2<st.mu.length:=(qh.1 m2).1;have hpush:∀(l:List Cell) (i:Nat),i<st.mu.length→(st.mu++l)[i]?=st.mu[i]?:=fun l i hi=>qm hi
  have p0:=fun l=>(hpush l 0 (by omega)).trans m0
  have p1:=fun l=>(hpush l 1 (by omega)).trans m1
  have p2:=fun l=>(hpush l 2 (by omega)).trans m2
  have g0:=(qh.1 m0).2;have g1:=(qh.1 m1).2;have g2:=(qh.1 m2).2;have hl0:0<st.mu.length:=by omega
  have hl1:1<st.mu.length:=by omega
  simp [go_sem,e1,e3,e5,e6,e7,e9,h8,hlt,qj,m0];refine qc.pure ck (wkE c _ _ _) ?_;cases hx:X n.kids[k] with
  |error e =>
   have he:=hXerr _ _ hx;have he0:¬e.1=0:=by omega
   rw [hx] at hE;have hE:seqL X n.kids = .error e:=hE;obtain ⟨hS0,hD0⟩:=hfe e hE;rw [hS0,hD0];simp [go_sem,e1,e3,e5,e6,e7,e9,h8,hlt,qj,m0,g0,p0,hl0,qe,QE.tk,pc,he0,dgOf];rw [if_pos (qw _)];generalize hP:putCells _ 0 (cRS Sk)=P;have hP2:P=cRS Sk:=by rw [←hP];exact pc (aI 0) _ (fun _=>false) _
   subst hP2;clear hP;simp [go_sem,e1,e3,e5,e6,e7,e9,h8,hlt,qj,m0,g0,p0,hl0,qe,QE.tk,pc,he0,dgOf];refine qd.seg [0,1,2,3] [(0,0,[]),(1,0,[]),(2,1,[1]),(3,1,[])] (by kernel_rfl) (by kernel_rfl) (by simp [go_sem]) ?_;simp [go_sem,e1,e3,e5,e6,e7,e9,h8,hlt,qj,m0,g0,p0,hl0,qe,QE.tk,pc,he0,dgOf,p1,p2,g1,g2,hl1,hml];exact .hf _ (zr zR e)
  |ok a =>
   rw [hx] at hE;simp only at hE;simp [go_sem,e1,e3,e5,e6,e7,e9,h8,hlt,qj,m0,g0,p0,hl0,qe,QE.tk,pc,dgOf];rw [if_pos (qw _)];generalize hP:putCells _ 0 (cRS Sk)=P;have hP2:P=cRS Sk:=by rw [←hP];exact pc (aI 0) _ (fun _=>false) _
   subst hP2;clear hP;simp [go_sem,e1,e3,e5,e6,e7,e9,h8,hlt,qj,m0,g0,p0,hl0,qe,QE.tk,pc,dgOf];rw [if_pos (qw _)];simp [go_sem,e1,e3,e5,e6,e7,e9,h8,hlt];refine w6 (lo:=3) (xs:=L) (ys:=[Sk]) ⟨by simpa using yY (yY ho.1 _) _,ho.2.1,by have:=ho.2.2;simp;omega⟩ (by simp [qE]) (by simp;omega) fun av' m' ho' hm'=>?_
   simp [go_sem,e1,e3,e5,e6,e7,e9,h8,hlt,w1];refine Keep.mk' ⟨acc++[a],L++[Sk],by simp [hal],by simp [hll],by simp [go_sem,e1],by simp [go_sem,e3],by simp [go_sem,e5],by simp [go_sem,e6],by simp [go_sem,e7],by simp [go_sem],?_,?_,?_,by simpa [go_sem] using ho',fun i x hi hik hkd=>?_,?_⟩
   ·simp only [qD];exact (hm' 0 (by omega)).trans (p0 _)
   ·simp only [qD];exact (hm' 1 (by omega)).trans (p1 _)
   ·simp only [qD];exact (hm' 2 (by omega)).trans (p2 _)
   ·by_cases hik2:i=k
    ·subst hik2
     rw [qq hlt] at hi;cases hi;obtain ⟨q,rfl,_⟩:=hXok _ a (qr hlt) hx hkd;refine ⟨q,?_,?_⟩
     ·rw [qP (by omega),hal];simp
     ·rw [qP (by omega),hll];simp [hk1 hkd q hx]
    ·obtain ⟨q,q1,q2⟩:=hrel i x hi (by omega) hkd
     exact ⟨q,by rw [qm (by omega)];exact q1,by rw [qm (by omega)];exact q2⟩
   ·rw [hE]
    cases seqL X (n.kids.drop (k+1)) with
    |error e=>rfl
    |ok l=>simp
 ·have hkl':k=n.kids.length:=by omega
  subst hkl';rw [List.drop_length] at hE;have hE:seqL X n.kids = .ok acc:=by rw [hE];simp only [seqL,zc]
  obtain ⟨S',b,q1,q2,q3⟩:=hfo acc hE;have hL:((n.op=5∨n.op=11∨n.op=12∨n.op=13)∨(n.op=6∨n.op=14∨n.op=7∨n.op=8∨n.op=32∨n.op=33∨n.op=9∨n.op=10))→L=acc.map setO:=fun h=>by
   have hkd:∀ x,x∈n.kids→kd x.op=101:=fun x hx=>Qb hw h x hx
   refine List.ext_getElem? fun i=>?_
   by_cases hi:i<n.kids.length
   ·obtain ⟨q,e1,e2⟩:=hrel i n.kids[i] (by simp [hi]) hi (hkd _ (qr hi))
    rw [e2,qW,e1];rfl
   ·rw [zu (by omega),zu (by simp;omega)]
  have hp:=q1 L hL;unfold prC at hp;have hml:2<st.mu.length:=(qh.1 m2).1;have hpush:∀(l:List Cell) (i:Nat),i<st.mu.length→(st.mu++l)[i]?=st.mu[i]?:=fun l i hi=>qm hi
  obtain ⟨rr,hrr⟩:=Qa m0 m1 m2;simp [go_sem,e1,e3,e5,e6,e7,e9,h8,qj,m0];refine qc.lend (args':=[eTS c.ts,eNd n,lRS L]) hp ⟨.hf _ (ze _),.hf _ (qB n),rdRS ho,trivial⟩ (w7 S' b) ?_;have hrl:st.mu.length=rr.length+3:=by rw [hrr];rfl
  clear m0 m1 m2 hpush ho;simp [go_sem,e1,e3,e5,e6,e7,e9,h8,qj,hrr,qe,QE.tk,pc];rw [if_pos (qw _)];generalize hP:putCells _ 0 (cRS S')=P;have hP2:P=cRS S':=by rw [←hP];exact pc (aI 0) _ (fun _=>false) _
  subst hP2;clear hP;cases b with
  |true =>
   obtain ⟨rfl,rfl⟩:=q2 rfl;simp [go_sem,e1,e3,e5,e6,e7,e9,h8,hrr,qe,QE.tk,pc];rw [if_pos (qw _)];simp [go_sem,e1,e3,e5,e6,e7,e9,h8,hrr,qe,QE.tk,pc];exact .hf _ (zr S (0,0))
  |false =>
   obtain ⟨rfl,rfl⟩:=q3 rfl;simp [go_sem,e1,e3,e5,e6,e7,e9,h8,hrr,qe,QE.tk,pc];refine qd.seg [0,1,2,3,4,5] [(0,0,[]),(1,0,[]),(2,0,[]),(3,0,[]),(4,1,[2]),(5,1,[])] (by kernel_rfl) (by kernel_rfl) (by simp [go_sem]) ?_;simp [go_sem,e1,e3,e5,e6,e7,e9,h8,hrr,qe,QE.tk,pc];exact .hf _ (zr zR (42,n.pos))
theorem qfJ (c:Ck) (hc:okCk c) (s:Scp) (n:Nd) (B:Bool) (X:Nd→Res) (S:RS) (D:Dg) (h1:¬n.op=1) (h47:¬n.op=47) (hb:¬(n.op=15∨n.op=45∨n.op=46)) (hw:WfN n) (hkl:n.kids.length≤401) (hT:zA n.op=false) (h12:¬n.op=12) (h13:n.op=13) (hBt:B=true)
  (hX1:∀ k,k∈n.kids→∃ S,qi Tryz.prog 196 [eVw c B,lVr (envS s),eNd k] (.tup [eRS S,eDg (dgOf (X k))])∧(kd k.op=101→∀ q,X k = .ok (some q)→S=ql q))
  (hXok:∀ k a,k∈n.kids→X k = .ok a→kd k.op=101→∃ q,a=some q∧okKd c.ts.sorts.length q)
  (hXerr:∀ k e,X k = .error e→40≤e.1)
  (hfe:∀ e,seqL X n.kids = .error e→S=zR∧D=e)
  (hfo:∀ l,seqL X n.kids = .ok l→∃ S' b,(∀ L:List RS,((n.op=5∨n.op=11∨n.op=12∨n.op=13)∨(n.op=6∨n.op=14∨n.op=7∨n.op=8∨n.op=32∨n.op=33∨n.op=9∨n.op=10)→L=l.map setO)→prC c.ts n L S' b)∧(b=true→S=S'∧D=(0,0))∧(b=false→S=zR∧D=(42,n.pos))) :
  qi Tryz.prog 196 [eVw c true,lVr (envS s),eNd n] (.tup [eRS S,eDg D]):=by
 simp only [not_or] at hb;obtain ⟨b1,b2,b3⟩:=hb;refine qSQ Tryz.call196 Tryz.func196 rfl { mt:=[3] } ?_;have ct:=jA n.op;have cp:=jV c hc n.name;rw [hT] at ct;simp [go_sem];refine qc.pure ct (wk1I _) ?_;simp [go_sem,h1,h47,b1,b2,b3];simp [go_sem,h12,h13];refine qk.upK n.kids.length (fun k st=>∃(acc:List (Option Kd)) (L:List RS),acc.length=k∧L.length=k∧st.tm 1=lVr (envS s)∧st.tm 3 = .ptr 0 0∧st.tm 5 = .ip (cNd n)∧st.tm 6 = .ptr 1 0∧st.tm 7 = .ptr 2 0∧st.tm 9=aI k∧st.mu[0]?=some (.arr (cVw c B))∧st.mu[1]?=some (.arr (aI 0 :: hB fun _=>false))∧st.mu[2]?=some (.arr [aI 0,aI 0])∧OwnF 3 st.mu 65 (st.tm 8) (L.map cRS)∧(∀(i:Nat) x,n.kids[i]?=some x→i<k→kd x.op=101→∃ q,acc[i]?=some (some q)∧L[i]?=some (ql q))∧seqL X n.kids=(match seqL X (n.kids.drop k) with | .error e => .error e | .ok l => .ok (acc++l))) ?_ ?_
 ·refine ⟨[],[],rfl,rfl,by simp [go_sem],by simp [go_sem],by simp [go_sem],by simp [go_sem],by simp [go_sem],by simp [go_sem],by rw [hBt];simp [go_sem],by simp [go_sem];rfl,by simp [go_sem],by simp [go_sem];exact OwnF.nil (by simp),fun i x _ h=>absurd h (by omega),?_⟩
  simp only [List.drop_zero,List.nil_append];cases seqL X n.kids<;>rfl
 rintro k st hk ⟨acc,L,hal,hll,e1,e3,e5,e6,e7,e9,m0,m1,m2,ho,hrel,hE⟩;generalize h8:st.tm 8=av at *
 by_cases hlt:k<n.kids.length
 ·have w1:IntKind.i64.wrap ((k:Int)+1)=(k:Int)+1:=qg (by omega) (by omega)
  obtain ⟨Sk,ck,hk1⟩:=hX1 n.kids[k] (qr hlt);rw [qX hlt] at hE;simp only [seqL] at hE;simp [go_sem,e1,e3,e5,e6,e7,e9,h8,hlt,qj];refine qd.seg [0,1,2,3,4,5,6,7,8,9,10,11,12,13,14] [(0,0,[]),(1,0,[]),(2,0,[]),(3,0,[]),(4,0,[]),(5,0,[]),(6,0,[]),(7,1,[]),(8,0,[]),(9,0,[]),(10,0,[]),(11,2,[0,3,6]),(12,2,[0,3,6]),(13,1,[]),(14,1,[])] (by kernel_rfl) (by kernel_rfl) (by simp [go_sem]) ?_;have hml:2<st.mu.length:=(qh.1 m2).1;have hpush:∀(l:List Cell) (i:Nat),i<st.mu.length→(st.mu++l)[i]?=st.mu[i]?:=fun l i hi=>qm hi
  have p0:=fun l=>(hpush l 0 (by omega)).trans m0
  have p1:=fun l=>(hpush l 1 (by omega)).trans m1
  have p2:=fun l=>(hpush l 2 (by omega)).trans m2
  have g0:=(qh.1 m0).2;have g1:=(qh.1 m1).2;have g2:=(qh.1 m2).2;have hl0:0<st.mu.length:=by omega
  have hl1:1<st.mu.length:=by omega
  simp [go_sem,e1,e3,e5,e6,e7,e9,h8,hlt,qj,m0];refine qc.pure ck (wkE c _ _ _) ?_;cases hx:X n.kids[k] with
  |error e =>
   have he:=hXerr _ _ hx;have he0:¬e.1=0:=by omega
   rw [hx] at hE;have hE:seqL X n.kids = .error e:=hE;obtain ⟨hS0,hD0⟩:=hfe e hE;rw [hS0,hD0];simp [go_sem,e1,e3,e5,e6,e7,e9,h8,hlt,qj,m0,g0,p0,hl0,qe,QE.tk,pc,he0,dgOf];rw [if_pos (qw _)];generalize hP:putCells _ 0 (cRS Sk)=P;have hP2:P=cRS Sk:=by rw [←hP];exact pc (aI 0) _ (fun _=>false) _
   subst hP2;clear hP;simp [go_sem,e1,e3,e5,e6,e7,e9,h8,hlt,qj,m0,g0,p0,hl0,qe,QE.tk,pc,he0,dgOf];refine qd.seg [0,1,2,3] [(0,0,[]),(1,0,[]),(2,1,[1]),(3,1,[])] (by kernel_rfl) (by kernel_rfl) (by simp [go_sem]) ?_;simp [go_sem,e1,e3,e5,e6,e7,e9,h8,hlt,qj,m0,g0,p0,hl0,qe,QE.tk,pc,he0,dgOf,p1,p2,g1,g2,hl1,hml];exact .hf _ (zr zR e)
  |ok a =>
   rw [hx] at hE;simp only at hE;simp [go_sem,e1,e3,e5,e6,e7,e9,h8,hlt,qj,m0,g0,p0,hl0,qe,QE.tk,pc,dgOf];rw [if_pos (qw _)];generalize hP:putCells _ 0 (cRS Sk)=P;have hP2:P=cRS Sk:=by rw [←hP];exact pc (aI 0) _ (fun _=>false) _
   subst hP2;clear hP;simp [go_sem,e1,e3,e5,e6,e7,e9,h8,hlt,qj,m0,g0,p0,hl0,qe,QE.tk,pc,dgOf];rw [if_pos (qw _)];simp [go_sem,e1,e3,e5,e6,e7,e9,h8,hlt];refine w6 (lo:=3) (xs:=L) (ys:=[Sk]) ⟨by simpa using yY (yY ho.1 _) _,ho.2.1,by have:=ho.2.2;simp;omega⟩ (by simp [qE]) (by simp;omega) fun av' m' ho' hm'=>?_
   simp [go_sem,e1,e3,e5,e6,e7,e9,h8,hlt,w1];refine Keep.mk' ⟨acc++[a],L++[Sk],by simp [hal],by simp [hll],by simp [go_sem,e1],by simp [go_sem,e3],by simp [go_sem,e5],by simp [go_sem,e6],by simp [go_sem,e7],by simp [go_sem],?_,?_,?_,by simpa [go_sem] using ho',fun i x hi hik hkd=>?_,?_⟩
   ·simp only [qD];exact (hm' 0 (by omega)).trans (p0 _)
   ·simp only [qD];exact (hm' 1 (by omega)).trans (p1 _)
   ·simp only [qD];exact (hm' 2 (by omega)).trans (p2 _)
   ·by_cases hik2:i=k
    ·subst hik2
     rw [qq hlt] at hi;cases hi;obtain ⟨q,rfl,_⟩:=hXok _ a (qr hlt) hx hkd;refine ⟨q,?_,?_⟩
     ·rw [qP (by omega),hal];simp
     ·rw [qP (by omega),hll];simp [hk1 hkd q hx]
    ·obtain ⟨q,q1,q2⟩:=hrel i x hi (by omega) hkd
     exact ⟨q,by rw [qm (by omega)];exact q1,by rw [qm (by omega)];exact q2⟩
   ·rw [hE]
    cases seqL X (n.kids.drop (k+1)) with
    |error e=>rfl
    |ok l=>simp
 ·have hkl':k=n.kids.length:=by omega
  subst hkl';rw [List.drop_length] at hE;have hE:seqL X n.kids = .ok acc:=by rw [hE];simp only [seqL,zc]
  obtain ⟨S',b,q1,q2,q3⟩:=hfo acc hE;have hL:((n.op=5∨n.op=11∨n.op=12∨n.op=13)∨(n.op=6∨n.op=14∨n.op=7∨n.op=8∨n.op=32∨n.op=33∨n.op=9∨n.op=10))→L=acc.map setO:=fun h=>by
   have hkd:∀ x,x∈n.kids→kd x.op=101:=fun x hx=>Qb hw h x hx
   refine List.ext_getElem? fun i=>?_
   by_cases hi:i<n.kids.length
   ·obtain ⟨q,e1,e2⟩:=hrel i n.kids[i] (by simp [hi]) hi (hkd _ (qr hi))
    rw [e2,qW,e1];rfl
   ·rw [zu (by omega),zu (by simp;omega)]
  have hp:=q1 L hL;unfold prC at hp;have hml:2<st.mu.length:=(qh.1 m2).1;have hpush:∀(l:List Cell) (i:Nat),i<st.mu.length→(st.mu++l)[i]?=st.mu[i]?:=fun l i hi=>qm hi
  obtain ⟨rr,hrr⟩:=Qa m0 m1 m2;simp [go_sem,e1,e3,e5,e6,e7,e9,h8,qj,m0];refine qc.lend (args':=[eTS c.ts,eNd n,lRS L]) hp ⟨.hf _ (ze _),.hf _ (qB n),rdRS ho,trivial⟩ (w7 S' b) ?_;have hrl:st.mu.length=rr.length+3:=by rw [hrr];rfl
  clear m0 m1 m2 hpush ho;simp [go_sem,e1,e3,e5,e6,e7,e9,h8,qj,hrr,qe,QE.tk,pc];rw [if_pos (qw _)];generalize hP:putCells _ 0 (cRS S')=P;have hP2:P=cRS S':=by rw [←hP];exact pc (aI 0) _ (fun _=>false) _
  subst hP2;clear hP;cases b with
  |true =>
   obtain ⟨rfl,rfl⟩:=q2 rfl;simp [go_sem,e1,e3,e5,e6,e7,e9,h8,hrr,qe,QE.tk,pc];rw [if_pos (qw _)];simp [go_sem,e1,e3,e5,e6,e7,e9,h8,hrr,qe,QE.tk,pc];exact .hf _ (zr S (0,0))
  |false =>
   obtain ⟨rfl,rfl⟩:=q3 rfl;simp [go_sem,e1,e3,e5,e6,e7,e9,h8,hrr,qe,QE.tk,pc];refine qd.seg [0,1,2,3,4,5] [(0,0,[]),(1,0,[]),(2,0,[]),(3,0,[]),(4,1,[2]),(5,1,[])] (by kernel_rfl) (by kernel_rfl) (by simp [go_sem]) ?_;simp [go_sem,e1,e3,e5,e6,e7,e9,h8,hrr,qe,QE.tk,pc];exact .hf _ (zr zR (42,n.pos))
theorem qfK (c:Ck) (hc:okCk c) (s:Scp) (n:Nd) (B:Bool) (X:Nd→Res) (S:RS) (D:Dg) (h1:¬n.op=1) (h47:¬n.op=47) (hb:¬(n.op=15∨n.op=45∨n.op=46)) (hw:WfN n) (hkl:n.kids.length≤401) (hT:zA n.op=false) (h12:¬n.op=12) (h13:¬n.op=13) (hBt:B=true)
  (hX1:∀ k,k∈n.kids→∃ S,qi Tryz.prog 196 [eVw c B,lVr (envS s),eNd k] (.tup [eRS S,eDg (dgOf (X k))])∧(kd k.op=101→∀ q,X k = .ok (some q)→S=ql q))
  (hXok:∀ k a,k∈n.kids→X k = .ok a→kd k.op=101→∃ q,a=some q∧okKd c.ts.sorts.length q)
  (hXerr:∀ k e,X k = .error e→40≤e.1)
  (hfe:∀ e,seqL X n.kids = .error e→S=zR∧D=e)
  (hfo:∀ l,seqL X n.kids = .ok l→∃ S' b,(∀ L:List RS,((n.op=5∨n.op=11∨n.op=12∨n.op=13)∨(n.op=6∨n.op=14∨n.op=7∨n.op=8∨n.op=32∨n.op=33∨n.op=9∨n.op=10)→L=l.map setO)→prC c.ts n L S' b)∧(b=true→S=S'∧D=(0,0))∧(b=false→S=zR∧D=(42,n.pos))) :
  qi Tryz.prog 196 [eVw c true,lVr (envS s),eNd n] (.tup [eRS S,eDg D]):=by
 simp only [not_or] at hb;obtain ⟨b1,b2,b3⟩:=hb;refine qSQ Tryz.call196 Tryz.func196 rfl { mt:=[3] } ?_;have ct:=jA n.op;have cp:=jV c hc n.name;rw [hT] at ct;simp [go_sem];refine qc.pure ct (wk1I _) ?_;simp [go_sem,h1,h47,b1,b2,b3];simp [go_sem,h12,h13];refine qk.upK n.kids.length (fun k st=>∃(acc:List (Option Kd)) (L:List RS),acc.length=k∧L.length=k∧st.tm 1=lVr (envS s)∧st.tm 3 = .ptr 0 0∧st.tm 5 = .ip (cNd n)∧st.tm 6 = .ptr 1 0∧st.tm 7 = .ptr 2 0∧st.tm 9=aI k∧st.mu[0]?=some (.arr (cVw c B))∧st.mu[1]?=some (.arr (aI 0 :: hB fun _=>false))∧st.mu[2]?=some (.arr [aI 0,aI 0])∧OwnF 3 st.mu 65 (st.tm 8) (L.map cRS)∧(∀(i:Nat) x,n.kids[i]?=some x→i<k→kd x.op=101→∃ q,acc[i]?=some (some q)∧L[i]?=some (ql q))∧seqL X n.kids=(match seqL X (n.kids.drop k) with | .error e => .error e | .ok l => .ok (acc++l))) ?_ ?_
 ·refine ⟨[],[],rfl,rfl,by simp [go_sem],by simp [go_sem],by simp [go_sem],by simp [go_sem],by simp [go_sem],by simp [go_sem],by rw [hBt];simp [go_sem],by simp [go_sem];rfl,by simp [go_sem],by simp [go_sem];exact OwnF.nil (by simp),fun i x _ h=>absurd h (by omega),?_⟩
  simp only [List.drop_zero,List.nil_append];cases seqL X n.kids<;>rfl
 rintro k st hk ⟨acc,L,hal,hll,e1,e3,e5,e6,e7,e9,m0,m1,m2,ho,hrel,hE⟩;generalize h8:st.tm 8=av at *
 by_cases hlt:k<n.kids.length
 ·have w1:IntKind.i64.wrap ((k:Int)+1)=(k:Int)+1:=qg (by omega) (by omega)
  obtain ⟨Sk,ck,hk1⟩:=hX1 n.kids[k] (qr hlt);rw [qX hlt] at hE;simp only [seqL] at hE;simp [go_sem,e1,e3,e5,e6,e7,e9,h8,hlt,qj];refine qd.seg [0,1,2,3,4,5,6,7,8,9,10,11,12,13,14] [(0,0,[]),(1,0,[]),(2,0,[]),(3,0,[]),(4,0,[]),(5,0,[]),(6,0,[]),(7,1,[]),(8,0,[]),(9,0,[]),(10,0,[]),(11,2,[0,3,6]),(12,2,[0,3,6]),(13,1,[]),(14,1,[])] (by kernel_rfl) (by kernel_rfl) (by simp [go_sem]) ?_;have hml:2<st.mu.length:=(qh.1 m2).1;have hpush:∀(l:List Cell) (i:Nat),i<st.mu.length→(st.mu++l)[i]?=st.mu[i]?:=fun l i hi=>qm hi
  have p0:=fun l=>(hpush l 0 (by omega)).trans m0
  have p1:=fun l=>(hpush l 1 (by omega)).trans m1
  have p2:=fun l=>(hpush l 2 (by omega)).trans m2
  have g0:=(qh.1 m0).2;have g1:=(qh.1 m1).2;have g2:=(qh.1 m2).2;have hl0:0<st.mu.length:=by omega
  have hl1:1<st.mu.length:=by omega
  simp [go_sem,e1,e3,e5,e6,e7,e9,h8,hlt,qj,m0];refine qc.pure ck (wkE c _ _ _) ?_;cases hx:X n.kids[k] with
  |error e =>
   have he:=hXerr _ _ hx;have he0:¬e.1=0:=by omega
   rw [hx] at hE;have hE:seqL X n.kids = .error e:=hE;obtain ⟨hS0,hD0⟩:=hfe e hE;rw [hS0,hD0];simp [go_sem,e1,e3,e5,e6,e7,e9,h8,hlt,qj,m0,g0,p0,hl0,qe,QE.tk,pc,he0,dgOf];rw [if_pos (qw _)];generalize hP:putCells _ 0 (cRS Sk)=P;have hP2:P=cRS Sk:=by rw [←hP];exact pc (aI 0) _ (fun _=>false) _
   subst hP2;clear hP;simp [go_sem,e1,e3,e5,e6,e7,e9,h8,hlt,qj,m0,g0,p0,hl0,qe,QE.tk,pc,he0,dgOf];refine qd.seg [0,1,2,3] [(0,0,[]),(1,0,[]),(2,1,[1]),(3,1,[])] (by kernel_rfl) (by kernel_rfl) (by simp [go_sem]) ?_;simp [go_sem,e1,e3,e5,e6,e7,e9,h8,hlt,qj,m0,g0,p0,hl0,qe,QE.tk,pc,he0,dgOf,p1,p2,g1,g2,hl1,hml];exact .hf _ (zr zR e)
  |ok a =>
   rw [hx] at hE;simp only at hE;simp [go_sem,e1,e3,e5,e6,e7,e9,h8,hlt,qj,m0,g0,p0,hl0,qe,QE.tk,pc,dgOf];rw [if_pos (qw _)];generalize hP:putCells _ 0 (cRS Sk)=P;have hP2:P=cRS Sk:=by rw [←hP];exact pc (aI 0) _ (fun _=>false) _
   subst hP2;clear hP;simp [go_sem,e1,e3,e5,e6,e7,e9,h8,hlt,qj,m0,g0,p0,hl0,qe,QE.tk,pc,dgOf];rw [if_pos (qw _)];simp [go_sem,e1,e3,e5,e6,e7,e9,h8,hlt];refine w6 (lo:=3) (xs:=L) (ys:=[Sk]) ⟨by simpa using yY (yY ho.1 _) _,ho.2.1,by have:=ho.2.2;simp;omega⟩ (by simp [qE]) (by simp;omega) fun av' m' ho' hm'=>?_
   simp [go_sem,e1,e3,e5,e6,e7,e9,h8,hlt,w1];refine Keep.mk' ⟨acc++[a],L++[Sk],by simp [hal],by simp [hll],by simp [go_sem,e1],by simp [go_sem,e3],by simp [go_sem,e5],by simp [go_sem,e6],by simp [go_sem,e7],by simp [go_sem],?_,?_,?_,by simpa [go_sem] using ho',fun i x hi hik hkd=>?_,?_⟩
   ·simp only [qD];exact (hm' 0 (by omega)).trans (p0 _)
   ·simp only [qD];exact (hm' 1 (by omega)).trans (p1 _)
   ·simp only [qD];exact (hm' 2 (by omega)).trans (p2 _)
   ·by_cases hik2:i=k
    ·subst hik2
     rw [qq hlt] at hi;cases hi;obtain ⟨q,rfl,_⟩:=hXok _ a (qr hlt) hx hkd;refine ⟨q,?_,?_⟩
     ·rw [qP (by omega),hal];simp
     ·rw [qP (by omega),hll];simp [hk1 hkd q hx]
    ·obtain ⟨q,q1,q2⟩:=hrel i x hi (by omega) hkd
     exact ⟨q,by rw [qm (by omega)];exact q1,by rw [qm (by omega)];exact q2⟩
   ·rw [hE]
    cases seqL X (n.kids.drop (k+1)) with
    |error e=>rfl
    |ok l=>simp
 ·have hkl':k=n.kids.length:=by omega
  subst hkl';rw [List.drop_length] at hE;have hE:seqL X n.kids = .ok acc:=by rw [hE];simp only [seqL,zc]
  obtain ⟨S',b,q1,q2,q3⟩:=hfo acc hE;have hL:((n.op=5∨n.op=11∨n.op=12∨n.op=13)∨(n.op=6∨n.op=14∨n.op=7∨n.op=8∨n.op=32∨n.op=33∨n.op=9∨n.op=10))→L=acc.map setO:=fun h=>by
   have hkd:∀ x,x∈n.kids→kd x.op=101:=fun x hx=>Qb hw h x hx
   refine List.ext_getElem? fun i=>?_
   by_cases hi:i<n.kids.length
   ·obtain ⟨q,e1,e2⟩:=hrel i n.kids[i] (by simp [hi]) hi (hkd _ (qr hi))
    rw [e2,qW,e1];rfl
   ·rw [zu (by omega),zu (by simp;omega)]
  have hp:=q1 L hL;unfold prC at hp;have hml:2<st.mu.length:=(qh.1 m2).1;have hpush:∀(l:List Cell) (i:Nat),i<st.mu.length→(st.mu++l)[i]?=st.mu[i]?:=fun l i hi=>qm hi
  obtain ⟨rr,hrr⟩:=Qa m0 m1 m2;simp [go_sem,e1,e3,e5,e6,e7,e9,h8,qj,m0];refine qc.lend (args':=[eTS c.ts,eNd n,lRS L]) hp ⟨.hf _ (ze _),.hf _ (qB n),rdRS ho,trivial⟩ (w7 S' b) ?_;have hrl:st.mu.length=rr.length+3:=by rw [hrr];rfl
  clear m0 m1 m2 hpush ho;simp [go_sem,e1,e3,e5,e6,e7,e9,h8,qj,hrr,qe,QE.tk,pc];rw [if_pos (qw _)];generalize hP:putCells _ 0 (cRS S')=P;have hP2:P=cRS S':=by rw [←hP];exact pc (aI 0) _ (fun _=>false) _
  subst hP2;clear hP;cases b with
  |true =>
   obtain ⟨rfl,rfl⟩:=q2 rfl;simp [go_sem,e1,e3,e5,e6,e7,e9,h8,hrr,qe,QE.tk,pc];rw [if_pos (qw _)];simp [go_sem,e1,e3,e5,e6,e7,e9,h8,hrr,qe,QE.tk,pc];exact .hf _ (zr S (0,0))
  |false =>
   obtain ⟨rfl,rfl⟩:=q3 rfl;simp [go_sem,e1,e3,e5,e6,e7,e9,h8,hrr,qe,QE.tk,pc];refine qd.seg [0,1,2,3,4,5] [(0,0,[]),(1,0,[]),(2,0,[]),(3,0,[]),(4,1,[2]),(5,1,[])] (by kernel_rfl) (by kernel_rfl) (by simp [go_sem]) ?_;simp [go_sem,e1,e3,e5,e6,e7,e9,h8,hrr,qe,QE.tk,pc];exact .hf _ (zr zR (42,n.pos))
theorem qfL (c:Ck) (hc:okCk c) (s:Scp) (n:Nd) (B:Bool) (X:Nd→Res) (S:RS) (D:Dg) (h1:¬n.op=1) (h47:¬n.op=47) (hb:¬(n.op=15∨n.op=45∨n.op=46)) (hw:WfN n) (hkl:n.kids.length≤401) (hT:True) (h12:n.op=12) (h13:¬n.op=13) (hBt:B=true)
  (hX1:∀ k,k∈n.kids→∃ S,qi Tryz.prog 196 [eVw c B,lVr (envS s),eNd k] (.tup [eRS S,eDg (dgOf (X k))])∧(kd k.op=101→∀ q,X k = .ok (some q)→S=ql q))
  (hXok:∀ k a,k∈n.kids→X k = .ok a→kd k.op=101→∃ q,a=some q∧okKd c.ts.sorts.length q)
  (hXerr:∀ k e,X k = .error e→40≤e.1)
  (hfe:∀ e,seqL X n.kids = .error e→S=zR∧D=e)
  (hfo:∀ l,seqL X n.kids = .ok l→∃ S' b,(∀ L:List RS,((n.op=5∨n.op=11∨n.op=12∨n.op=13)∨(n.op=6∨n.op=14∨n.op=7∨n.op=8∨n.op=32∨n.op=33∨n.op=9∨n.op=10)→L=l.map setO)→prC c.ts n L S' b)∧(b=true→S=S'∧D=(0,0))∧(b=false→S=zR∧D=(42,n.pos))) :
  qi Tryz.prog 196 [eVw c false,lVr (envS s),eNd n] (.tup [eRS S,eDg D]):=by
 simp only [not_or] at hb;obtain ⟨b1,b2,b3⟩:=hb;refine qSQ Tryz.call196 Tryz.func196 rfl { mt:=[3] } ?_;have ct:=jA n.op;have cp:=jV c hc n.name;simp [go_sem,h1,h47,b1,b2,b3];simp [go_sem,h12];refine qk.upK n.kids.length (fun k st=>∃(acc:List (Option Kd)) (L:List RS),acc.length=k∧L.length=k∧st.tm 1=lVr (envS s)∧st.tm 3 = .ptr 0 0∧st.tm 5 = .ip (cNd n)∧st.tm 6 = .ptr 1 0∧st.tm 7 = .ptr 2 0∧st.tm 9=aI k∧st.mu[0]?=some (.arr (cVw c B))∧st.mu[1]?=some (.arr (aI 0 :: hB fun _=>false))∧st.mu[2]?=some (.arr [aI 0,aI 0])∧OwnF 3 st.mu 65 (st.tm 8) (L.map cRS)∧(∀(i:Nat) x,n.kids[i]?=some x→i<k→kd x.op=101→∃ q,acc[i]?=some (some q)∧L[i]?=some (ql q))∧seqL X n.kids=(match seqL X (n.kids.drop k) with | .error e => .error e | .ok l => .ok (acc++l))) ?_ ?_
 ·refine ⟨[],[],rfl,rfl,by simp [go_sem],by simp [go_sem],by simp [go_sem],by simp [go_sem],by simp [go_sem],by simp [go_sem],by rw [hBt];simp [go_sem],by simp [go_sem];rfl,by simp [go_sem],by simp [go_sem];exact OwnF.nil (by simp),fun i x _ h=>absurd h (by omega),?_⟩
  simp only [List.drop_zero,List.nil_append];cases seqL X n.kids<;>rfl
 rintro k st hk ⟨acc,L,hal,hll,e1,e3,e5,e6,e7,e9,m0,m1,m2,ho,hrel,hE⟩;generalize h8:st.tm 8=av at *
 by_cases hlt:k<n.kids.length
 ·have w1:IntKind.i64.wrap ((k:Int)+1)=(k:Int)+1:=qg (by omega) (by omega)
  obtain ⟨Sk,ck,hk1⟩:=hX1 n.kids[k] (qr hlt);rw [qX hlt] at hE;simp only [seqL] at hE;simp [go_sem,e1,e3,e5,e6,e7,e9,h8,hlt,qj];refine qd.seg [0,1,2,3,4,5,6,7,8,9,10,11,12,13,14] [(0,0,[]),(1,0,[]),(2,0,[]),(3,0,[]),(4,0,[]),(5,0,[]),(6,0,[]),(7,1,[]),(8,0,[]),(9,0,[]),(10,0,[]),(11,2,[0,3,6]),(12,2,[0,3,6]),(13,1,[]),(14,1,[])] (by kernel_rfl) (by kernel_rfl) (by simp [go_sem]) ?_;have hml:2<st.mu.length:=(qh.1 m2).1;have hpush:∀(l:List Cell) (i:Nat),i<st.mu.length→(st.mu++l)[i]?=st.mu[i]?:=fun l i hi=>qm hi
  have p0:=fun l=>(hpush l 0 (by omega)).trans m0
  have p1:=fun l=>(hpush l 1 (by omega)).trans m1
  have p2:=fun l=>(hpush l 2 (by omega)).trans m2
  have g0:=(qh.1 m0).2;have g1:=(qh.1 m1).2;have g2:=(qh.1 m2).2;have hl0:0<st.mu.length:=by omega
  have hl1:1<st.mu.length:=by omega
  simp [go_sem,e1,e3,e5,e6,e7,e9,h8,hlt,qj,m0];refine qc.pure ck (wkE c _ _ _) ?_;cases hx:X n.kids[k] with
  |error e =>
   have he:=hXerr _ _ hx;have he0:¬e.1=0:=by omega
   rw [hx] at hE;have hE:seqL X n.kids = .error e:=hE;obtain ⟨hS0,hD0⟩:=hfe e hE;rw [hS0,hD0];simp [go_sem,e1,e3,e5,e6,e7,e9,h8,hlt,qj,m0,g0,p0,hl0,qe,QE.tk,pc,he0,dgOf];rw [if_pos (qw _)];generalize hP:putCells _ 0 (cRS Sk)=P;have hP2:P=cRS Sk:=by rw [←hP];exact pc (aI 0) _ (fun _=>false) _
   subst hP2;clear hP;simp [go_sem,e1,e3,e5,e6,e7,e9,h8,hlt,qj,m0,g0,p0,hl0,qe,QE.tk,pc,he0,dgOf];refine qd.seg [0,1,2,3] [(0,0,[]),(1,0,[]),(2,1,[1]),(3,1,[])] (by kernel_rfl) (by kernel_rfl) (by simp [go_sem]) ?_;simp [go_sem,e1,e3,e5,e6,e7,e9,h8,hlt,qj,m0,g0,p0,hl0,qe,QE.tk,pc,he0,dgOf,p1,p2,g1,g2,hl1,hml];exact .hf _ (zr zR e)
  |ok a =>
   rw [hx] at hE;simp only at hE;simp [go_sem,e1,e3,e5,e6,e7,e9,h8,hlt,qj,m0,g0,p0,hl0,qe,QE.tk,pc,dgOf];rw [if_pos (qw _)];generalize hP:putCells _ 0 (cRS Sk)=P;have hP2:P=cRS Sk:=by rw [←hP];exact pc (aI 0) _ (fun _=>false) _
   subst hP2;clear hP;simp [go_sem,e1,e3,e5,e6,e7,e9,h8,hlt,qj,m0,g0,p0,hl0,qe,QE.tk,pc,dgOf];rw [if_pos (qw _)];simp [go_sem,e1,e3,e5,e6,e7,e9,h8,hlt];refine w6 (lo:=3) (xs:=L) (ys:=[Sk]) ⟨by simpa using yY (yY ho.1 _) _,ho.2.1,by have:=ho.2.2;simp;omega⟩ (by simp [qE]) (by simp;omega) fun av' m' ho' hm'=>?_
   simp [go_sem,e1,e3,e5,e6,e7,e9,h8,hlt,w1];refine Keep.mk' ⟨acc++[a],L++[Sk],by simp [hal],by simp [hll],by simp [go_sem,e1],by simp [go_sem,e3],by simp [go_sem,e5],by simp [go_sem,e6],by simp [go_sem,e7],by simp [go_sem],?_,?_,?_,by simpa [go_sem] using ho',fun i x hi hik hkd=>?_,?_⟩
   ·simp only [qD];exact (hm' 0 (by omega)).trans (p0 _)
   ·simp only [qD];exact (hm' 1 (by omega)).trans (p1 _)
   ·simp only [qD];exact (hm' 2 (by omega)).trans (p2 _)
   ·by_cases hik2:i=k
    ·subst hik2
     rw [qq hlt] at hi;cases hi;obtain ⟨q,rfl,_⟩:=hXok _ a (qr hlt) hx hkd;refine ⟨q,?_,?_⟩
     ·rw [qP (by omega),hal];simp
     ·rw [qP (by omega),hll];simp [hk1 hkd q hx]
    ·obtain ⟨q,q1,q2⟩:=hrel i x hi (by omega) hkd
     exact ⟨q,by rw [qm (by omega)];exact q1,by rw [qm (by omega)];exact q2⟩
   ·rw [hE]
    cases seqL X (n.kids.drop (k+1)) with
    |error e=>rfl
    |ok l=>simp
 ·have hkl':k=n.kids.length:=by omega
  subst hkl';rw [List.drop_length] at hE;have hE:seqL X n.kids = .ok acc:=by rw [hE];simp only [seqL,zc]
  obtain ⟨S',b,q1,q2,q3⟩:=hfo acc hE;have hL:((n.op=5∨n.op=11∨n.op=12∨n.op=13)∨(n.op=6∨n.op=14∨n.op=7∨n.op=8∨n.op=32∨n.op=33∨n.op=9∨n.op=10))→L=acc.map setO:=fun h=>by
   have hkd:∀ x,x∈n.kids→kd x.op=101:=fun x hx=>Qb hw h x hx
   refine List.ext_getElem? fun i=>?_
   by_cases hi:i<n.kids.length
   ·obtain ⟨q,e1,e2⟩:=hrel i n.kids[i] (by simp [hi]) hi (hkd _ (qr hi))
    rw [e2,qW,e1];rfl
   ·rw [zu (by omega),zu (by simp;omega)]
  have hp:=q1 L hL;unfold prC at hp;have hml:2<st.mu.length:=(qh.1 m2).1;have hpush:∀(l:List Cell) (i:Nat),i<st.mu.length→(st.mu++l)[i]?=st.mu[i]?:=fun l i hi=>qm hi
  obtain ⟨rr,hrr⟩:=Qa m0 m1 m2;simp [go_sem,e1,e3,e5,e6,e7,e9,h8,qj,m0];refine qc.lend (args':=[eTS c.ts,eNd n,lRS L]) hp ⟨.hf _ (ze _),.hf _ (qB n),rdRS ho,trivial⟩ (w7 S' b) ?_;have hrl:st.mu.length=rr.length+3:=by rw [hrr];rfl
  clear m0 m1 m2 hpush ho;simp [go_sem,e1,e3,e5,e6,e7,e9,h8,qj,hrr,qe,QE.tk,pc];rw [if_pos (qw _)];generalize hP:putCells _ 0 (cRS S')=P;have hP2:P=cRS S':=by rw [←hP];exact pc (aI 0) _ (fun _=>false) _
  subst hP2;clear hP;cases b with
  |true =>
   obtain ⟨rfl,rfl⟩:=q2 rfl;simp [go_sem,e1,e3,e5,e6,e7,e9,h8,hrr,qe,QE.tk,pc];rw [if_pos (qw _)];simp [go_sem,e1,e3,e5,e6,e7,e9,h8,hrr,qe,QE.tk,pc];exact .hf _ (zr S (0,0))
  |false =>
   obtain ⟨rfl,rfl⟩:=q3 rfl;simp [go_sem,e1,e3,e5,e6,e7,e9,h8,hrr,qe,QE.tk,pc];refine qd.seg [0,1,2,3,4,5] [(0,0,[]),(1,0,[]),(2,0,[]),(3,0,[]),(4,1,[2]),(5,1,[])] (by kernel_rfl) (by kernel_rfl) (by simp [go_sem]) ?_;simp [go_sem,e1,e3,e5,e6,e7,e9,h8,hrr,qe,QE.tk,pc];exact .hf _ (zr zR (42,n.pos))
theorem qfM (c:Ck) (hc:okCk c) (s:Scp) (n:Nd) (B:Bool) (X:Nd→Res) (S:RS) (D:Dg) (h1:¬n.op=1) (h47:¬n.op=47) (hb:¬(n.op=15∨n.op=45∨n.op=46)) (hw:WfN n) (hkl:n.kids.length≤401) (hT:True) (h12:¬n.op=12) (h13:n.op=13) (hBt:B=true)
  (hX1:∀ k,k∈n.kids→∃ S,qi Tryz.prog 196 [eVw c B,lVr (envS s),eNd k] (.tup [eRS S,eDg (dgOf (X k))])∧(kd k.op=101→∀ q,X k = .ok (some q)→S=ql q))
  (hXok:∀ k a,k∈n.kids→X k = .ok a→kd k.op=101→∃ q,a=some q∧okKd c.ts.sorts.length q)
  (hXerr:∀ k e,X k = .error e→40≤e.1)
  (hfe:∀ e,seqL X n.kids = .error e→S=zR∧D=e)
  (hfo:∀ l,seqL X n.kids = .ok l→∃ S' b,(∀ L:List RS,((n.op=5∨n.op=11∨n.op=12∨n.op=13)∨(n.op=6∨n.op=14∨n.op=7∨n.op=8∨n.op=32∨n.op=33∨n.op=9∨n.op=10)→L=l.map setO)→prC c.ts n L S' b)∧(b=true→S=S'∧D=(0,0))∧(b=false→S=zR∧D=(42,n.pos))) :
  qi Tryz.prog 196 [eVw c false,lVr (envS s),eNd n] (.tup [eRS S,eDg D]):=by
 simp only [not_or] at hb;obtain ⟨b1,b2,b3⟩:=hb;refine qSQ Tryz.call196 Tryz.func196 rfl { mt:=[3] } ?_;have ct:=jA n.op;have cp:=jV c hc n.name;simp [go_sem,h1,h47,b1,b2,b3];simp [go_sem,h12,h13];refine qk.upK n.kids.length (fun k st=>∃(acc:List (Option Kd)) (L:List RS),acc.length=k∧L.length=k∧st.tm 1=lVr (envS s)∧st.tm 3 = .ptr 0 0∧st.tm 5 = .ip (cNd n)∧st.tm 6 = .ptr 1 0∧st.tm 7 = .ptr 2 0∧st.tm 9=aI k∧st.mu[0]?=some (.arr (cVw c B))∧st.mu[1]?=some (.arr (aI 0 :: hB fun _=>false))∧st.mu[2]?=some (.arr [aI 0,aI 0])∧OwnF 3 st.mu 65 (st.tm 8) (L.map cRS)∧(∀(i:Nat) x,n.kids[i]?=some x→i<k→kd x.op=101→∃ q,acc[i]?=some (some q)∧L[i]?=some (ql q))∧seqL X n.kids=(match seqL X (n.kids.drop k) with | .error e => .error e | .ok l => .ok (acc++l))) ?_ ?_
 ·refine ⟨[],[],rfl,rfl,by simp [go_sem],by simp [go_sem],by simp [go_sem],by simp [go_sem],by simp [go_sem],by simp [go_sem],by rw [hBt];simp [go_sem],by simp [go_sem];rfl,by simp [go_sem],by simp [go_sem];exact OwnF.nil (by simp),fun i x _ h=>absurd h (by omega),?_⟩
  simp only [List.drop_zero,List.nil_append];cases seqL X n.kids<;>rfl
 rintro k st hk ⟨acc,L,hal,hll,e1,e3,e5,e6,e7,e9,m0,m1,m2,ho,hrel,hE⟩;generalize h8:st.tm 8=av at *
 by_cases hlt:k<n.kids.length
 ·have w1:IntKind.i64.wrap ((k:Int)+1)=(k:Int)+1:=qg (by omega) (by omega)
  obtain ⟨Sk,ck,hk1⟩:=hX1 n.kids[k] (qr hlt);rw [qX hlt] at hE;simp only [seqL] at hE;simp [go_sem,e1,e3,e5,e6,e7,e9,h8,hlt,qj];refine qd.seg [0,1,2,3,4,5,6,7,8,9,10,11,12,13,14] [(0,0,[]),(1,0,[]),(2,0,[]),(3,0,[]),(4,0,[]),(5,0,[]),(6,0,[]),(7,1,[]),(8,0,[]),(9,0,[]),(10,0,[]),(11,2,[0,3,6]),(12,2,[0,3,6]),(13,1,[]),(14,1,[])] (by kernel_rfl) (by kernel_rfl) (by simp [go_sem]) ?_;have hml:2<st.mu.length:=(qh.1 m2).1;have hpush:∀(l:List Cell) (i:Nat),i<st.mu.length→(st.mu++l)[i]?=st.mu[i]?:=fun l i hi=>qm hi
  have p0:=fun l=>(hpush l 0 (by omega)).trans m0
  have p1:=fun l=>(hpush l 1 (by omega)).trans m1
  have p2:=fun l=>(hpush l 2 (by omega)).trans m2
  have g0:=(qh.1 m0).2;have g1:=(qh.1 m1).2;have g2:=(qh.1 m2).2;have hl0:0<st.mu.length:=by omega
  have hl1:1<st.mu.length:=by omega
  simp [go_sem,e1,e3,e5,e6,e7,e9,h8,hlt,qj,m0];refine qc.pure ck (wkE c _ _ _) ?_;cases hx:X n.kids[k] with
  |error e =>
   have he:=hXerr _ _ hx;have he0:¬e.1=0:=by omega
   rw [hx] at hE;have hE:seqL X n.kids = .error e:=hE;obtain ⟨hS0,hD0⟩:=hfe e hE;rw [hS0,hD0];simp [go_sem,e1,e3,e5,e6,e7,e9,h8,hlt,qj,m0,g0,p0,hl0,qe,QE.tk,pc,he0,dgOf];rw [if_pos (qw _)];generalize hP:putCells _ 0 (cRS Sk)=P;have hP2:P=cRS Sk:=by rw [←hP];exact pc (aI 0) _ (fun _=>false) _
   subst hP2;clear hP;simp [go_sem,e1,e3,e5,e6,e7,e9,h8,hlt,qj,m0,g0,p0,hl0,qe,QE.tk,pc,he0,dgOf];refine qd.seg [0,1,2,3] [(0,0,[]),(1,0,[]),(2,1,[1]),(3,1,[])] (by kernel_rfl) (by kernel_rfl) (by simp [go_sem]) ?_;simp [go_sem,e1,e3,e5,e6,e7,e9,h8,hlt,qj,m0,g0,p0,hl0,qe,QE.tk,pc,he0,dgOf,p1,p2,g1,g2,hl1,hml];exact .hf _ (zr zR e)
  |ok a =>
   rw [hx] at hE;simp only at hE;simp [go_sem,e1,e3,e5,e6,e7,e9,h8,hlt,qj,m0,g0,p0,hl0,qe,QE.tk,pc,dgOf];rw [if_pos (qw _)];generalize hP:putCells _ 0 (cRS Sk)=P;have hP2:P=cRS Sk:=by rw [←hP];exact pc (aI 0) _ (fun _=>false) _
   subst hP2;clear hP;simp [go_sem,e1,e3,e5,e6,e7,e9,h8,hlt,qj,m0,g0,p0,hl0,qe,QE.tk,pc,dgOf];rw [if_pos (qw _)];simp [go_sem,e1,e3,e5,e6,e7,e9,h8,hlt];refine w6 (lo:=3) (xs:=L) (ys:=[Sk]) ⟨by simpa using yY (yY ho.1 _) _,ho.2.1,by have:=ho.2.2;simp;omega⟩ (by simp [qE]) (by simp;omega) fun av' m' ho' hm'=>?_
   simp [go_sem,e1,e3,e5,e6,e7,e9,h8,hlt,w1];refine Keep.mk' ⟨acc++[a],L++[Sk],by simp [hal],by simp [hll],by simp [go_sem,e1],by simp [go_sem,e3],by simp [go_sem,e5],by simp [go_sem,e6],by simp [go_sem,e7],by simp [go_sem],?_,?_,?_,by simpa [go_sem] using ho',fun i x hi hik hkd=>?_,?_⟩
   ·simp only [qD];exact (hm' 0 (by omega)).trans (p0 _)
   ·simp only [qD];exact (hm' 1 (by omega)).trans (p1 _)
   ·simp only [qD];exact (hm' 2 (by omega)).trans (p2 _)
   ·by_cases hik2:i=k
    ·subst hik2
     rw [qq hlt] at hi;cases hi;obtain ⟨q,rfl,_⟩:=hXok _ a (qr hlt) hx hkd;refine ⟨q,?_,?_⟩
     ·rw [qP (by omega),hal];simp
     ·rw [qP (by omega),hll];simp [hk1 hkd q hx]
    ·obtain ⟨q,q1,q2⟩:=hrel i x hi (by omega) hkd
     exact ⟨q,by rw [qm (by omega)];exact q1,by rw [qm (by omega)];exact q2⟩
   ·rw [hE]
    cases seqL X (n.kids.drop (k+1)) with
    |error e=>rfl
    |ok l=>simp
 ·have hkl':k=n.kids.length:=by omega
  subst hkl';rw [List.drop_length] at hE;have hE:seqL X n.kids = .ok acc:=by rw [hE];simp only [seqL,zc]
  obtain ⟨S',b,q1,q2,q3⟩:=hfo acc hE;have hL:((n.op=5∨n.op=11∨n.op=12∨n.op=13)∨(n.op=6∨n.op=14∨n.op=7∨n.op=8∨n.op=32∨n.op=33∨n.op=9∨n.op=10))→L=acc.map setO:=fun h=>by
   have hkd:∀ x,x∈n.kids→kd x.op=101:=fun x hx=>Qb hw h x hx
   refine List.ext_getElem? fun i=>?_
   by_cases hi:i<n.kids.length
   ·obtain ⟨q,e1,e2⟩:=hrel i n.kids[i] (by simp [hi]) hi (hkd _ (qr hi))
    rw [e2,qW,e1];rfl
   ·rw [zu (by omega),zu (by simp;omega)]
  have hp:=q1 L hL;unfold prC at hp;have hml:2<st.mu.length:=(qh.1 m2).1;have hpush:∀(l:List Cell) (i:Nat),i<st.mu.length→(st.mu++l)[i]?=st.mu[i]?:=fun l i hi=>qm hi
  obtain ⟨rr,hrr⟩:=Qa m0 m1 m2;simp [go_sem,e1,e3,e5,e6,e7,e9,h8,qj,m0];refine qc.lend (args':=[eTS c.ts,eNd n,lRS L]) hp ⟨.hf _ (ze _),.hf _ (qB n),rdRS ho,trivial⟩ (w7 S' b) ?_;have hrl:st.mu.length=rr.length+3:=by rw [hrr];rfl
  clear m0 m1 m2 hpush ho;simp [go_sem,e1,e3,e5,e6,e7,e9,h8,qj,hrr,qe,QE.tk,pc];rw [if_pos (qw _)];generalize hP:putCells _ 0 (cRS S')=P;have hP2:P=cRS S':=by rw [←hP];exact pc (aI 0) _ (fun _=>false) _
  subst hP2;clear hP;cases b with
  |true =>
   obtain ⟨rfl,rfl⟩:=q2 rfl;simp [go_sem,e1,e3,e5,e6,e7,e9,h8,hrr,qe,QE.tk,pc];rw [if_pos (qw _)];simp [go_sem,e1,e3,e5,e6,e7,e9,h8,hrr,qe,QE.tk,pc];exact .hf _ (zr S (0,0))
  |false =>
   obtain ⟨rfl,rfl⟩:=q3 rfl;simp [go_sem,e1,e3,e5,e6,e7,e9,h8,hrr,qe,QE.tk,pc];refine qd.seg [0,1,2,3,4,5] [(0,0,[]),(1,0,[]),(2,0,[]),(3,0,[]),(4,1,[2]),(5,1,[])] (by kernel_rfl) (by kernel_rfl) (by simp [go_sem]) ?_;simp [go_sem,e1,e3,e5,e6,e7,e9,h8,hrr,qe,QE.tk,pc];exact .hf _ (zr zR (42,n.pos))
theorem qfN (c:Ck) (hc:okCk c) (s:Scp) (n:Nd) (B:Bool) (X:Nd→Res) (S:RS) (D:Dg) (h1:¬n.op=1) (h47:¬n.op=47) (hb:¬(n.op=15∨n.op=45∨n.op=46)) (hw:WfN n) (hkl:n.kids.length≤401) (hT:True) (h12:¬n.op=12) (h13:¬n.op=13) (hBt:B=false)
  (hX1:∀ k,k∈n.kids→∃ S,qi Tryz.prog 196 [eVw c B,lVr (envS s),eNd k] (.tup [eRS S,eDg (dgOf (X k))])∧(kd k.op=101→∀ q,X k = .ok (some q)→S=ql q))
  (hXok:∀ k a,k∈n.kids→X k = .ok a→kd k.op=101→∃ q,a=some q∧okKd c.ts.sorts.length q)
  (hXerr:∀ k e,X k = .error e→40≤e.1)
  (hfe:∀ e,seqL X n.kids = .error e→S=zR∧D=e)
  (hfo:∀ l,seqL X n.kids = .ok l→∃ S' b,(∀ L:List RS,((n.op=5∨n.op=11∨n.op=12∨n.op=13)∨(n.op=6∨n.op=14∨n.op=7∨n.op=8∨n.op=32∨n.op=33∨n.op=9∨n.op=10)→L=l.map setO)→prC c.ts n L S' b)∧(b=true→S=S'∧D=(0,0))∧(b=false→S=zR∧D=(42,n.pos))) :
  qi Tryz.prog 196 [eVw c false,lVr (envS s),eNd n] (.tup [eRS S,eDg D]):=by
 simp only [not_or] at hb;obtain ⟨b1,b2,b3⟩:=hb;refine qSQ Tryz.call196 Tryz.func196 rfl { mt:=[3] } ?_;have ct:=jA n.op;have cp:=jV c hc n.name;simp [go_sem,h1,h47,b1,b2,b3];simp [go_sem,h12,h13];refine qk.upK n.kids.length (fun k st=>∃(acc:List (Option Kd)) (L:List RS),acc.length=k∧L.length=k∧st.tm 1=lVr (envS s)∧st.tm 3 = .ptr 0 0∧st.tm 5 = .ip (cNd n)∧st.tm 6 = .ptr 1 0∧st.tm 7 = .ptr 2 0∧st.tm 9=aI k∧st.mu[0]?=some (.arr (cVw c B))∧st.mu[1]?=some (.arr (aI 0 :: hB fun _=>false))∧st.mu[2]?=some (.arr [aI 0,aI 0])∧OwnF 3 st.mu 65 (st.tm 8) (L.map cRS)∧(∀(i:Nat) x,n.kids[i]?=some x→i<k→kd x.op=101→∃ q,acc[i]?=some (some q)∧L[i]?=some (ql q))∧seqL X n.kids=(match seqL X (n.kids.drop k) with | .error e => .error e | .ok l => .ok (acc++l))) ?_ ?_
 ·refine ⟨[],[],rfl,rfl,by simp [go_sem],by simp [go_sem],by simp [go_sem],by simp [go_sem],by simp [go_sem],by simp [go_sem],by rw [hBt];simp [go_sem],by simp [go_sem];rfl,by simp [go_sem],by simp [go_sem];exact OwnF.nil (by simp),fun i x _ h=>absurd h (by omega),?_⟩
  simp only [List.drop_zero,List.nil_append];cases seqL X n.kids<;>rfl
 rintro k st hk ⟨acc,L,hal,hll,e1,e3,e5,e6,e7,e9,m0,m1,m2,ho,hrel,hE⟩;generalize h8:st.tm 8=av at *
 by_cases hlt:k<n.kids.length
 ·have w1:IntKind.i64.wrap ((k:Int)+1)=(k:Int)+1:=qg (by omega) (by omega)
  obtain ⟨Sk,ck,hk1⟩:=hX1 n.kids[k] (qr hlt);rw [qX hlt] at hE;simp only [seqL] at hE;simp [go_sem,e1,e3,e5,e6,e7,e9,h8,hlt,qj];refine qd.seg [0,1,2,3,4,5,6,7,8,9,10,11,12,13,14] [(0,0,[]),(1,0,[]),(2,0,[]),(3,0,[]),(4,0,[]),(5,0,[]),(6,0,[]),(7,1,[]),(8,0,[]),(9,0,[]),(10,0,[]),(11,2,[0,3,6]),(12,2,[0,3,6]),(13,1,[]),(14,1,[])] (by kernel_rfl) (by kernel_rfl) (by simp [go_sem]) ?_;have hml:2<st.mu.length:=(qh.1 m2).1;have hpush:∀(l:List Cell) (i:Nat),i<st.mu.length→(st.mu++l)[i]?=st.mu[i]?:=fun l i hi=>qm hi
  have p0:=fun l=>(hpush l 0 (by omega)).trans m0
  have p1:=fun l=>(hpush l 1 (by omega)).trans m1
  have p2:=fun l=>(hpush l 2 (by omega)).trans m2
  have g0:=(qh.1 m0).2;have g1:=(qh.1 m1).2;have g2:=(qh.1 m2).2;have hl0:0<st.mu.length:=by omega
  have hl1:1<st.mu.length:=by omega
  simp [go_sem,e1,e3,e5,e6,e7,e9,h8,hlt,qj,m0];refine qc.pure ck (wkE c _ _ _) ?_;cases hx:X n.kids[k] with
  |error e =>
   have he:=hXerr _ _ hx;have he0:¬e.1=0:=by omega
   rw [hx] at hE;have hE:seqL X n.kids = .error e:=hE;obtain ⟨hS0,hD0⟩:=hfe e hE;rw [hS0,hD0];simp [go_sem,e1,e3,e5,e6,e7,e9,h8,hlt,qj,m0,g0,p0,hl0,qe,QE.tk,pc,he0,dgOf];rw [if_pos (qw _)];generalize hP:putCells _ 0 (cRS Sk)=P;have hP2:P=cRS Sk:=by rw [←hP];exact pc (aI 0) _ (fun _=>false) _
   subst hP2;clear hP;simp [go_sem,e1,e3,e5,e6,e7,e9,h8,hlt,qj,m0,g0,p0,hl0,qe,QE.tk,pc,he0,dgOf];refine qd.seg [0,1,2,3] [(0,0,[]),(1,0,[]),(2,1,[1]),(3,1,[])] (by kernel_rfl) (by kernel_rfl) (by simp [go_sem]) ?_;simp [go_sem,e1,e3,e5,e6,e7,e9,h8,hlt,qj,m0,g0,p0,hl0,qe,QE.tk,pc,he0,dgOf,p1,p2,g1,g2,hl1,hml];exact .hf _ (zr zR e)
  |ok a =>
   rw [hx] at hE;simp only at hE;simp [go_sem,e1,e3,e5,e6,e7,e9,h8,hlt,qj,m0,g0,p0,hl0,qe,QE.tk,pc,dgOf];rw [if_pos (qw _)];generalize hP:putCells _ 0 (cRS Sk)=P;have hP2:P=cRS Sk:=by rw [←hP];exact pc (aI 0) _ (fun _=>false) _
   subst hP2;clear hP;simp [go_sem,e1,e3,e5,e6,e7,e9,h8,hlt,qj,m0,g0,p0,hl0,qe,QE.tk,pc,dgOf];rw [if_pos (qw _)];simp [go_sem,e1,e3,e5,e6,e7,e9,h8,hlt];refine w6 (lo:=3) (xs:=L) (ys:=[Sk]) ⟨by simpa using yY (yY ho.1 _) _,ho.2.1,by have:=ho.2.2;simp;omega⟩ (by simp [qE]) (by simp;omega) fun av' m' ho' hm'=>?_
   simp [go_sem,e1,e3,e5,e6,e7,e9,h8,hlt,w1];refine Keep.mk' ⟨acc++[a],L++[Sk],by simp [hal],by simp [hll],by simp [go_sem,e1],by simp [go_sem,e3],by simp [go_sem,e5],by simp [go_sem,e6],by simp [go_sem,e7],by simp [go_sem],?_,?_,?_,by simpa [go_sem] using ho',fun i x hi hik hkd=>?_,?_⟩
   ·simp only [qD];exact (hm' 0 (by omega)).trans (p0 _)
   ·simp only [qD];exact (hm' 1 (by omega)).trans (p1 _)
   ·simp only [qD];exact (hm' 2 (by omega)).trans (p2 _)
   ·by_cases hik2:i=k
    ·subst hik2
     rw [qq hlt] at hi;cases hi;obtain ⟨q,rfl,_⟩:=hXok _ a (qr hlt) hx hkd;refine ⟨q,?_,?_⟩
     ·rw [qP (by omega),hal];simp
     ·rw [qP (by omega),hll];simp [hk1 hkd q hx]
    ·obtain ⟨q,q1,q2⟩:=hrel i x hi (by omega) hkd
     exact ⟨q,by rw [qm (by omega)];exact q1,by rw [qm (by omega)];exact q2⟩
   ·rw [hE]
    cases seqL X (n.kids.drop (k+1)) with
    |error e=>rfl
    |ok l=>simp
 ·have hkl':k=n.kids.length:=by omega
  subst hkl';rw [List.drop_length] at hE;have hE:seqL X n.kids = .ok acc:=by rw [hE];simp only [seqL,zc]
  obtain ⟨S',b,q1,q2,q3⟩:=hfo acc hE;have hL:((n.op=5∨n.op=11∨n.op=12∨n.op=13)∨(n.op=6∨n.op=14∨n.op=7∨n.op=8∨n.op=32∨n.op=33∨n.op=9∨n.op=10))→L=acc.map setO:=fun h=>by
   have hkd:∀ x,x∈n.kids→kd x.op=101:=fun x hx=>Qb hw h x hx
   refine List.ext_getElem? fun i=>?_
   by_cases hi:i<n.kids.length
   ·obtain ⟨q,e1,e2⟩:=hrel i n.kids[i] (by simp [hi]) hi (hkd _ (qr hi))
    rw [e2,qW,e1];rfl
   ·rw [zu (by omega),zu (by simp;omega)]
  have hp:=q1 L hL;unfold prC at hp;have hml:2<st.mu.length:=(qh.1 m2).1;have hpush:∀(l:List Cell) (i:Nat),i<st.mu.length→(st.mu++l)[i]?=st.mu[i]?:=fun l i hi=>qm hi
  obtain ⟨rr,hrr⟩:=Qa m0 m1 m2;simp [go_sem,e1,e3,e5,e6,e7,e9,h8,qj,m0];refine qc.lend (args':=[eTS c.ts,eNd n,lRS L]) hp ⟨.hf _ (ze _),.hf _ (qB n),rdRS ho,trivial⟩ (w7 S' b) ?_;have hrl:st.mu.length=rr.length+3:=by rw [hrr];rfl
  clear m0 m1 m2 hpush ho;simp [go_sem,e1,e3,e5,e6,e7,e9,h8,qj,hrr,qe,QE.tk,pc];rw [if_pos (qw _)];generalize hP:putCells _ 0 (cRS S')=P;have hP2:P=cRS S':=by rw [←hP];exact pc (aI 0) _ (fun _=>false) _
  subst hP2;clear hP;cases b with
  |true =>
   obtain ⟨rfl,rfl⟩:=q2 rfl;simp [go_sem,e1,e3,e5,e6,e7,e9,h8,hrr,qe,QE.tk,pc];rw [if_pos (qw _)];simp [go_sem,e1,e3,e5,e6,e7,e9,h8,hrr,qe,QE.tk,pc];exact .hf _ (zr S (0,0))
  |false =>
   obtain ⟨rfl,rfl⟩:=q3 rfl;simp [go_sem,e1,e3,e5,e6,e7,e9,h8,hrr,qe,QE.tk,pc];refine qd.seg [0,1,2,3,4,5] [(0,0,[]),(1,0,[]),(2,0,[]),(3,0,[]),(4,1,[2]),(5,1,[])] (by kernel_rfl) (by kernel_rfl) (by simp [go_sem]) ?_;simp [go_sem,e1,e3,e5,e6,e7,e9,h8,hrr,qe,QE.tk,pc];exact .hf _ (zr zR (42,n.pos))
theorem qfO (c:Ck) (hc:okCk c) (s:Scp) (hs:ScOk c.ts.sorts.length s) (inn:Bool) (n:Nd) (hw:WfN n) (h1:¬n.op=1) (h47:¬n.op=47) (hb:¬(n.op=15∨n.op=45∨n.op=46)) (ht:(inn&&zY c n.op n.name)=false) (ih:∀ k,k∈n.kids→∀ inn,ExR c s inn k):ExR c s inn n:=by
 have hx:exam c s inn n=match q6 c s (inn||decide (n.op=12)||decide (n.op=13)) n.kids with | .error e => .error e | .ok l=>zJ c.ts.sorts.length n.op n.n n.pos l:=by
  rw [jE,ht,if_neg (by simp),if_neg h1,if_neg h47,if_neg hb];generalize q6 c s _ n.kids=Z;cases Z<;>rfl
 have hB1:n.op=12∨n.op=13→(inn||decide (n.op=12)||decide (n.op=13))=true:=fun h=>by rcases h with h | h<;>simp [h]
 have hB2:¬n.op=12→¬n.op=13→(inn||decide (n.op=12)||decide (n.op=13))=inn:=fun h h'=>by simp [h,h']
 generalize (inn||decide (n.op=12)||decide (n.op=13))=B at *
 obtain ⟨S,D,hSD,hq,hfe,hfo⟩:∃ S D,dgOf (exam c s inn n)=D∧(kd n.op=101→∀ q,exam c s inn n = .ok (some q)→S=ql q)∧(∀ e,q6 c s B n.kids = .error e→S=zR∧D=e) ∧
   (∀ l,q6 c s B n.kids = .ok l→∃ S' b,(∀ L:List RS,((n.op=5∨n.op=11∨n.op=12∨n.op=13)∨(n.op=6∨n.op=14∨n.op=7∨n.op=8∨n.op=32∨n.op=33∨n.op=9∨n.op=10)→L=l.map setO)→prC c.ts n L S' b)∧(b=true→S=S'∧D=(0,0))∧(b=false→S=zR∧D=(42,n.pos))):=by
  rw [hx];cases hE:q6 c s B n.kids with
  |error e=>exact ⟨zR,e,rfl,(fun _ q h=>by cases h),(fun e' h=>by cases h;exact ⟨rfl,rfl⟩),(fun l h=>by cases h)⟩
  |ok l =>
   obtain ⟨hl1,hl2⟩:=YQ hE;have hap:=(VX hc.ts.ns hw hl1 (fun i k' a hi ha hkd=>vQ hc (szN k') k' s B a (qo _) (hw.kid (List.mem_of_getElem? hi)) hs (hl2 i k' a hi ha) hkd)).2;obtain ⟨S',b,p1,p2⟩:=qfB c.ts hc.ts n l h1 (fun h=>hb (.inl h)) (fun h=>by
    rcases h with h | h | h | h
    ·exact hap.1 h
    ·exact hap.2.1 (.inl h)
    ·exact hap.2.1 (.inr (.inl h))
    ·exact hap.2.1 (.inr (.inr h))) hap.2.2
   simp only;cases hA:zJ c.ts.sorts.length n.op n.n n.pos l with
   |error e =>
    rw [hA] at p2;have p2:b=false:=p2;refine ⟨zR,e,rfl,(fun _ q h=>by cases h),(fun e' h=>by cases h),(fun l' h=>by cases h;exact ⟨S',b,p1,(fun h=>by rw [p2] at h;cases h),(fun _=>⟨rfl,qfD hA⟩)⟩)⟩
   |ok ko =>
    rw [hA] at p2;obtain ⟨p2,p3⟩:=p2;refine ⟨S',(0,0),rfl,(fun hk q h=>?_),(fun e' h=>by cases h),(fun l' h=>by cases h;exact ⟨S',b,p1,(fun _=>⟨rfl,rfl⟩),(fun h=>by rw [p2] at h;cases h)⟩)⟩;obtain ⟨q',e1,e2⟩:=p3 hk;cases h;cases e1;exact e2
 refine ⟨S,?_,hq⟩;rw [hSD];clear hSD hx hq;obtain ⟨X,hX⟩:∃ X:Nd→Res,X=exam c s B:=⟨_,rfl⟩;have hX1:∀ k,k∈n.kids→∃ S,qi Tryz.prog 196 [eVw c B,lVr (envS s),eNd k] (.tup [eRS S,eDg (dgOf (X k))])∧(kd k.op=101→∀ q,X k = .ok (some q)→S=ql q):=fun k hk=>by rw [hX];exact ih k hk B
 have hXok:∀ k a,k∈n.kids→X k = .ok a→kd k.op=101→∃ q,a=some q∧okKd c.ts.sorts.length q:=fun k a hk h hkd=>by rw [hX] at h;exact vQ hc (szN k) k s B a (qo _) (hw.kid hk) hs h hkd
 have hXerr:∀ k e,X k = .error e→40≤e.1:=fun k e h=>by rw [hX] at h;exact uX c (szN k) k s B e (qo _) h
 rw [k5,←hX] at hfe hfo;clear hX ih;have hkl:=hw.len;cases inn with
 |true =>
  have hT:zA n.op=false:=by
   rw [Bool.true_and,Jo,Bool.or_eq_false_iff] at ht;exact ht.1
  by_cases h12:n.op=12
  ·exact qfI c hc s n B X S D h1 h47 hb hw hkl hT h12 (by omega) (hB1 (.inl h12)) hX1 hXok hXerr hfe hfo
  by_cases h13:n.op=13
  ·exact qfJ c hc s n B X S D h1 h47 hb hw hkl hT h12 h13 (hB1 (.inr h13)) hX1 hXok hXerr hfe hfo
  exact qfK c hc s n B X S D h1 h47 hb hw hkl hT h12 h13 (hB2 h12 h13) hX1 hXok hXerr hfe hfo
 |false =>
  by_cases h12:n.op=12
  ·exact qfL c hc s n B X S D h1 h47 hb hw hkl trivial h12 (by omega) (hB1 (.inl h12)) hX1 hXok hXerr hfe hfo
  by_cases h13:n.op=13
  ·exact qfM c hc s n B X S D h1 h47 hb hw hkl trivial h12 h13 (hB1 (.inr h13)) hX1 hXok hXerr hfe hfo
  exact qfN c hc s n B X S D h1 h47 hb hw hkl trivial h12 h13 (hB2 h12 h13) hX1 hXok hXerr hfe hfo
theorem k6 (c:Ck) (hc:okCk c):∀(m:Nat) (n:Nd),depN n≤m→WfN n→∀(s:Scp),ScOk c.ts.sorts.length s→s.length+m≤80000→∀ inn,ExR c s inn n
 | 0,n,hm,_,_,_,_,_=>by have:=qe3 n;omega
 |m+1,n,hm,hw,s,hs,hsl,inn=>by
  have ih:∀ k,k∈n.kids→∀ s',ScOk c.ts.sorts.length s'→s'.length≤s.length+1→∀ inn,ExR c s' inn k:=fun k hk s' hs' hl inn=>k6 c hc m k (by have:=qe2 hk;rw [wV] at hm;omega) (hw.kid hk) s' hs' (by omega) inn
  cases ht:inn&&zY c n.op n.name with
  |true =>
   rw [Bool.and_eq_true] at ht;rw [ht.1];exact qfE c hc s n ht.2
  |false =>
   by_cases h1:n.op=1
   ·exact qfF c hc s (by omega) inn n h1
   by_cases h47:n.op=47
   ·exact qfG c hc s hs inn n hw h47 ht fun k hk=>ih k hk s hs (by omega) true
   by_cases hb:n.op=15∨n.op=45∨n.op=46
   ·exact qfH c hc s hs (by omega) inn n hw hb ht ih
   ·exact qfO c hc s hs inn n hw h1 h47 hb ht fun k hk inn=>ih k hk s hs (by omega) inn
end Go.Proofs.YtkglmpmlfjogkaaGreatDoor.QS


namespace Go.Proofs.YtkglmpmlfjogkaaGreatDoor.QT
open Go Go.Ev Go.Proofs Go.Proofs.YtkglmpmlfjogkaaGreatDoor YM YF Y9 Y10 Y1 Y2 Y3 Y12 Y13 Y14 Y15 Y16 YZ P1 P2 PA PB Q5 QA QD QE QF QG QH QI QJ QK QL QM QN PG QO QR QS
def ckR (ts:TS) (i:Nat):Ck:=⟨ts,i,tmsL ts ts.preds.length⟩
theorem k7 {ts:TS} (h:okTS ts) {i:Nat} (hi:i≤ts.preds.length):okCk (ckR ts i):=⟨h,hi,by show i≤(tmsL ts ts.preds.length).length;rw [uQ ts _ (qo _)];exact hi⟩
theorem k8 {c c':Ck} (hts:c'.ts=c.ts) (hcl:∀ nm,zg c' nm=zg c nm) (htm:∀ op nm,zY c' op nm=zY c op nm):∀(m:Nat) (n:Nd) (s:Scp) (inn:Bool),szN n≤m→exam c s inn n=exam c' s inn n
 | 0,n,_,_,hm=>by obtain ⟨op,nm,i,ks,p⟩:=n;simp [szN] at hm
 |m+1,n,s,inn,hm=>by
  have hk:∀ k,k∈n.kids→∀(s:Scp) (inn:Bool),exam c s inn k=exam c' s inn k:=fun k hk s inn=>k8 hts hcl htm m k s inn (by have:=zZ hk;omega)
  refine qc9 rfl rfl rfl rfl (htm _ _) (fun _=>?_) (by rw [hts]) (hcl _) (by rw [hts]) rfl (fun _ ps=>qdA fun k hkk=>hk k hkk s true) (fun _ inn=>?_) (fun _ _ _ inn=>KY fun k hkk=>hk k hkk s inn)
  ·rw [KV,KV,hts]
  ·cases hks:n.kids with
   |nil=>rfl
   |cons k ks =>
    have hmem:∀ x,x∈k :: ks→x∈n.kids:=fun x hx=>by rw [hks];exact hx
    simp only [yd];rw [hk k (hmem k (zU ..)) s inn];have hr:∀ a,q6 c ((n.name,a) :: s) inn ks=q6 c' ((n.name,a) :: s) inn ks:=fun a=>KY fun x hx=>hk x (hmem x (zx _ hx)) _ _
    simp only [hr]
theorem qfP {ts:TS} (h:okTS ts) {i:Nat} (hi:i≤ts.preds.length) (n:Nd) (s:Scp) (inn:Bool):exam (ckR ts i) s inn n=exam (mkCk ts i) s inn n:=by
 refine (k8 (c:=mkCk ts i) (c':=ckR ts i) rfl (fun nm=>rfl) (fun op nm=>?_) (szN n) n s inn (qo _)).symm;unfold zY;have e:zg (ckR ts i) nm=zg (mkCk ts i) nm:=rfl;rw [e];cases hc:zg (mkCk ts i) nm with
 |none=>rfl
 |some p =>
  obtain ⟨h1,h2⟩:=Zj (wK h hi) hc;have h1:p<i:=h1;have h2:p<ts.preds.length:=h2;simp only;have a1:=PC.UJ ts p ts.preds.length h2 (qo _) h2;have a2:=PC.UJ ts p i h1 hi h2;show (zA op||(decide (op=47)&&(tmsL ts ts.preds.length).getD p false))=(zA op||(decide (op=47)&&(tmsL ts i).getD p false));rw [a1,a2]
theorem qfQ {ts:TS} (h:okTS ts) {i:Nat} (hi:i≤ts.preds.length) (env:List (ByteArray×Int)) (n:Nd):yT (mkCk ts i) env n=if 30≤n.op then dgOf (exam (ckR ts i) (yx env) false n) else (43,n.pos):=by
 unfold yT;rw [qfP h hi]
theorem k9 (ts:TS) (h:okTS ts) (wp:∀ p,p∈ts.preds→WfN p.body) (i:Nat) (hi:i≤ts.preds.length) (env:List (ByteArray×Int)) (he:wR ts.sorts.length env) (hel:env.length≤1000) (n:Nd) (hw:WfN n) (hd:depN n≤24) :
  qi Tryz.prog 159 [eTS ts,aI i,lPm env,eNd n] (eDg (yT (mkCk ts i) env n)):=by
 rw [qfQ h hi];have hns:=h.ns;have hs:=KC he;have hbl:(yx env).length=env.length:=by
  have:=congrArg List.length (kQ env);rw [Jn] at this;simpa [envV] using this.symm
 obtain ⟨S,ce,_⟩:=k6 (ckR ts i) (k7 h hi) 24 n hd hw (yx env) hs (by omega) false;have cv:=envU env hel (fun p hp=>by have:=he.r p hp;omega);rw [kQ] at cv;have c1:=qeV n;have c2:=qeR ts h wp;refine qSQ Tryz.call159 Tryz.func159 rfl {} ?_;simp [go_sem];refine qc.pure c1 (.cons (.hf (qB n)) .nil) ?_;by_cases h30:30≤n.op
 ·rw [if_pos h30]
  generalize dgOf (exam (ckR ts i) (yx env) false n)=D at *
  simp [go_sem,h30];refine qd.seg [0,1,3,5,7,2,4,6,8,9,10,11,12,13,14,15] [(0,0,[]),(1,0,[]),(3,0,[]),(5,0,[]),(7,0,[]),(2,1,[0,7]),(4,0,[]),(6,1,[0,7]),(8,1,[]),(9,0,[]),(10,0,[]),(11,0,[]),(12,2,[0,1,7]),(13,2,[0,1,7]),(14,1,[]),(15,1,[])] (by kernel_rfl) (by kernel_rfl) (by simp [go_sem]) ?_;simp [go_sem];refine qc.pure c2 (.cons (.hf (ze ts)) .nil) ?_;simp [go_sem];refine qc.pure cv (.cons (.hf (yV env)) .nil) ?_;simp [go_sem];refine qc.pure ce (wkE (ckR ts i) false _ n) ?_;simp [go_sem,qe,QE.tk,pc];rw [if_pos (qw _)];generalize hP:putCells _ 0 (cRS S)=P;have hP2:P=cRS S:=by rw [←hP];exact pc (aI 0) _ (fun _=>false) _
  subst hP2;clear hP;simp [go_sem,qe,QE.tk,pc];exact .hf _ (js D)
 ·rw [if_neg h30]
  simp [go_sem,h30];exact .hf _ (js (43,n.pos))
theorem qfR (ts:TS) (h:okTS ts) (wp:∀ p,p∈ts.preds→WfN p.body) (env:List (ByteArray×Int)) (he:wR ts.sorts.length env) (hel:env.length≤1000) (n:Nd) (hw:WfN n) (hd:depN n≤24) :
  qi Tryz.prog 94 [eTS ts,lPm env,eNd n] (eDg (jb ts env n)):=by
 have c1:=k9 ts h wp ts.preds.length (qo _) env he hel n hw hd;have e:yT (mkCk ts ts.preds.length) env n=jb ts env n:=rfl;rw [e] at c1;generalize jb ts env n=D at *
 refine qSQ Tryz.call94 Tryz.func94 rfl {} ?_;simp [go_sem];refine qc.pure c1 (.cons (.hf (ze ts)) (.cons (.hf (HF.sc _)) (.cons (.hf (yV env)) (.cons (.hf (qB n)) .nil)))) ?_;simp [go_sem];exact .hf _ (js D)
theorem Qc (a b:List Bool):dups (a++b)=dups a++dups b:=by simp [dups]
theorem vo (b:Bool):dups [b]=if b=true then [(41,0)] else []:=by cases b<;>rfl
theorem vh (l:List Bool):(dups l).length≤l.length:=by
 unfold dups;rw [yj];exact List.length_filter_le ..
theorem UK {α:Type} (eqv:α→α→Bool) (l:List α) (k:Nat) (h:k<l.length):(repL eqv l).take (k+1)=(repL eqv l).take k++[(l.take k).any fun y=>eqv l[k] y]:=by
 have hl:k<(repL eqv l).length:=by rw [vT];exact h
 rw [UN hl];congr 2;have:=KD eqv l h;rw [qq hl] at this;exact Option.some.inj this
theorem Jp {α:Type} (p:α→Bool) (l:List α) (k:Nat) (h:k<l.length):(l.take (k+1)).any p=((l.take k).any p||p l[k]):=by
 rw [UN h,List.any_append];simp only [List.any_cons,List.any_nil,Bool.or_false]
abbrev eS:ByteArray×Bool→ByteArray×Bool→Bool:=fun x y=>decide (x.1=y.1)
abbrev eF:Fld→Fld→Bool:=fun x y=>decide (x.name=y.name)&&decide (x.sorts=y.sorts)
abbrev eP:Pd→Pd→Bool:=fun x y=>decide (x.name=y.name)
abbrev eM:ByteArray×Int→ByteArray×Int→Bool:=fun x y=>decide (x.1=y.1)
abbrev eA:ByteArray×Nd→ByteArray×Nd→Bool:=fun x y=>decide (x.1=y.1)
theorem vX {mu:Mu} {lo:Nat} {s x:AV} {xs ys:List Dg} {K:AV→Mu→Prop} (ho:OwnF lo mu 2 s (xs.map cDg)) (hx:qE mu x=some (ys.map cDg)) (hl:xs.length+ys.length≤100000) (kk:∀ av mu',OwnF lo mu' 2 av ((xs++ys).map cDg)→(∀ i,i<lo→mu'[i]?=mu[i]?)→K av mu') :
  qz Tryz.prog mu #[85,85] s x K:=by
 have hrows:∀ l:List Dg,qY 2 (l.map cDg):=fun l r hr=>by
  obtain ⟨n,_,rfl⟩:=qn.1 hr;exact ⟨rfl,rfl⟩
 refine qz.ownF (lo:=lo) (e:=134) (sz:=2) (bt:=16) (zv := .agg [aI 0,aI 0]) (xs:=xs.map cDg) (ys:=ys.map cDg) (by simp [go_sem]) (by simp [go_sem]) (by simp [go_sem]) rfl rfl (by omega) (by omega) ho hx (hrows xs) (hrows ys) (by simp;omega) ?_;intro av mu' h h2;exact kk av mu' (by rw [List.map_append];exact h) h2
theorem qfS (ts:TS) (h:okTS ts) (mu:Mu):qJ Tryz.prog 92 [eTS ts] mu fun e m=>∃ av,e = .ret av∧OwnF mu.length m 2 av ((dups (repL eS ts.sorts)++dups (repL eF ts.fields)).map cDg)∧∀ i,i<mu.length→m[i]?=mu[i]?:=by
 refine qSW Tryz.call92 Tryz.func92 rfl {} ?_;have hns:=h.ns;have hnf:=h.nf;simp [go_sem];refine qk.upK ts.sorts.length (fun i st=>st.tm 1 = .ip (cTS ts)∧st.tm 4=aI i∧OwnF mu.length st.mu 2 (st.tm 3) ((dups ((repL eS ts.sorts).take i)).map cDg)∧∀ i,i<mu.length→st.mu[i]?=mu[i]?) ?_ ?_
 ·exact ⟨by simp [go_sem],by simp [go_sem],by simp [go_sem,dups];exact OwnF.nil (qo _),by simp [go_sem]⟩
 rintro i st hi ⟨e1,e4,ho,hm⟩;have hlen:(dups ((repL eS ts.sorts).take i)).length≤i:=zj (vh _) (List.length_take_le ..);generalize h3:st.tm 3=av at *
 by_cases hlt:i<ts.sorts.length
 ·have hnx:=UK eS ts.sorts i hlt
  have wi:IntKind.i64.wrap ((i:Int)+1)=(i:Int)+1:=qg (by omega) (by omega);simp [go_sem,e1,e4,h3,hlt];refine qk.upK i (fun k st2=>st2.tm 1 = .ip (cTS ts)∧st2.tm 4=aI i∧st2.tm 3=av∧st2.tm 6=aI k∧st2.tm 5=aB ((ts.sorts.take k).any fun y=>eS ts.sorts[i] y)∧st2.mu=st.mu) ?_ ?_
  ·exact ⟨by simp [go_sem,e1],by simp [go_sem,e4],by simp [go_sem,h3],by simp [go_sem],by simp [go_sem],by simp [go_sem]⟩
  rintro k st2 hk ⟨f1,f4,f3,f6,f5,fm⟩;generalize hT:(ts.sorts.take k).any (fun y=>eS ts.sorts[i] y)=T at *
  by_cases hki:k<i
  ·have hkl:k<ts.sorts.length:=by omega
   have wk:IntKind.i64.wrap ((k:Int)+1)=(k:Int)+1:=qg (by omega) (by omega);have hany:=Jp (fun y=>eS ts.sorts[i] y) ts.sorts k hkl;rw [hT] at hany;simp [go_sem,f1,f4,f3,f6,f5,hki];refine qd.intro (by kernel_rfl) ?_;cases T with
   |true =>
    rw [Bool.true_or] at hany;simp [go_sem,f1,f4,f3,f6,f5,hki,hkl,hlt,wk];exact Keep.mk' ⟨by simp [go_sem,f1],by simp [go_sem,f4],by simp [go_sem,f3],by simp [go_sem],by rw [hany];simp [go_sem],by simp [go_sem,fm]⟩
   |false =>
    rw [Bool.false_or] at hany;by_cases hq:ts.sorts[k].1=ts.sorts[i].1
    ·have hany2:(ts.sorts.take (k+1)).any (fun y=>eS ts.sorts[i] y)=true:=by rw [hany];exact decide_eq_true hq.symm
     simp [go_sem,f1,f4,f3,f6,f5,hki,hkl,hlt,wk,hq];exact Keep.mk' ⟨by simp [go_sem,f1],by simp [go_sem,f4],by simp [go_sem,f3],by simp [go_sem],by rw [hany2];simp [go_sem],by simp [go_sem,fm]⟩
    ·have hany2:(ts.sorts.take (k+1)).any (fun y=>eS ts.sorts[i] y)=false:=by rw [hany];exact decide_eq_false fun e=>hq e.symm
     simp [go_sem,f1,f4,f3,f6,f5,hki,hkl,hlt,wk,jo hq];exact Keep.mk' ⟨by simp [go_sem,f1],by simp [go_sem,f4],by simp [go_sem,f3],by simp [go_sem],by rw [hany2];simp [go_sem],by simp [go_sem,fm]⟩
  ·have hke:k=i:=by omega
   subst hke;rw [hT] at hnx;cases T with
   |true =>
    simp [go_sem,f1,f4,f3,f6,f5,fm];refine vX (ys:=[(41,0)]) ho (by simp [qE]) (by simp;omega) fun av' m' ho' hm'=>?_
    simp [go_sem,f1,f4,wi];exact ⟨hlt,Keep.mk' ⟨by simp [go_sem,f1],by simp [go_sem],by rw [hnx,Qc,vo,if_pos rfl];simpa [go_sem] using ho',by simp only [qD];exact fun i hi=>(hm' i hi).trans (hm i hi)⟩⟩
   |false =>
    simp [go_sem,f1,f4,f3,f6,f5,fm,wi];exact ⟨hlt,Keep.mk' ⟨by simp [go_sem,f1],by simp [go_sem],by rw [hnx,Qc,vo,if_neg (by simp),zc];simpa [go_sem,f3,fm] using ho,by simp only [qD];exact hm⟩⟩
 ·have hie:i=ts.sorts.length:=by omega
  subst hie;rw [zC (by rw [vT];exact qo _)] at ho;simp [go_sem,e1,e4,h3];generalize hDS:dups (repL eS ts.sorts)=DS0 at *
  have hds:DS0.length≤4:=by rw [←hDS];exact zj (vh _) (by rw [vT];exact hns)
  refine qk.upK ts.fields.length (fun i st=>st.tm 1 = .ip (cTS ts)∧st.tm 7=aI i∧OwnF mu.length st.mu 2 (st.tm 3) ((DS0++dups ((repL eF ts.fields).take i)).map cDg)∧∀ i,i<mu.length→st.mu[i]?=mu[i]?) ?_ ?_
  ·exact ⟨by simp [go_sem,e1],by simp [go_sem],by simpa [go_sem,dups,h3] using ho,by simpa [go_sem] using hm⟩
  clear hlen ho hm e1 e4 h3 hlt hi st;rintro i st hi ⟨e1,e4,ho,hm⟩;have hlen:(dups ((repL eF ts.fields).take i)).length≤i:=zj (vh _) (List.length_take_le ..);generalize h3:st.tm 3=av2 at *
  by_cases hlt:i<ts.fields.length
  ·have hnx:=UK eF ts.fields i hlt
   have wi:IntKind.i64.wrap ((i:Int)+1)=(i:Int)+1:=qg (by omega) (by omega);simp [go_sem,e1,e4,h3,hlt];refine qk.upK i (fun k st2=>st2.tm 1 = .ip (cTS ts)∧st2.tm 7=aI i∧st2.tm 3=av2∧st2.tm 9=aI k∧st2.tm 8=aB ((ts.fields.take k).any fun y=>eF ts.fields[i] y)∧st2.mu=st.mu) ?_ ?_
   ·exact ⟨by simp [go_sem,e1],by simp [go_sem,e4],by simp [go_sem,h3],by simp [go_sem],by simp [go_sem],by simp [go_sem]⟩
   rintro k st2 hk ⟨f1,f4,f3,f6,f5,fm⟩;generalize hT:(ts.fields.take k).any (fun y=>eF ts.fields[i] y)=T at *
   by_cases hki:k<i
   ·have hkl:k<ts.fields.length:=by omega
    have wk:IntKind.i64.wrap ((k:Int)+1)=(k:Int)+1:=qg (by omega) (by omega);have hany:=Jp (fun y=>eF ts.fields[i] y) ts.fields k hkl;rw [hT] at hany;have hfl:=h.fl _ (qr hkl);have hsm:=qc1 ts.fields[k].sorts ts.fields[i].sorts (by omega);simp [go_sem,f1,f4,f3,f6,f5,hki];refine qd.intro (by kernel_rfl) ?_;cases T with
    |true =>
     rw [Bool.true_or] at hany;simp [go_sem,f1,f4,f3,f6,f5,hki,hkl,hlt,wk];exact Keep.mk' ⟨by simp [go_sem,f1],by simp [go_sem,f4],by simp [go_sem,f3],by simp [go_sem],by rw [hany];simp [go_sem],by simp [go_sem,fm]⟩
    |false =>
     rw [Bool.false_or] at hany;by_cases hq:ts.fields[k].name=ts.fields[i].name
     ·simp [go_sem,f1,f4,f3,f6,f5,hki,hkl,hlt,wk,hq]
      refine qc.pure hsm (.cons (.hf (zI _)) (.cons (.hf (zI _)) .nil)) ?_;by_cases hq2:ts.fields[k].sorts=ts.fields[i].sorts
      ·have hany2:(ts.fields.take (k+1)).any (fun y=>eF ts.fields[i] y)=true:=by rw [hany];simp [eF,hq.symm,hq2.symm]
       simp [go_sem,f1,f4,f3,f6,f5,hki,hkl,hlt,wk,hq2];exact Keep.mk' ⟨by simp [go_sem,f1],by simp [go_sem,f4],by simp [go_sem,f3],by simp [go_sem],by rw [hany2];simp [go_sem],by simp [go_sem,fm]⟩
      ·have hany2:(ts.fields.take (k+1)).any (fun y=>eF ts.fields[i] y)=false:=by rw [hany];simp [eF,hq.symm];exact fun e=>hq2 e.symm
       simp [go_sem,f1,f4,f3,f6,f5,hki,hkl,hlt,wk,hq2];exact Keep.mk' ⟨by simp [go_sem,f1],by simp [go_sem,f4],by simp [go_sem,f3],by simp [go_sem],by rw [hany2];simp [go_sem],by simp [go_sem,fm]⟩
     ·have hany2:(ts.fields.take (k+1)).any (fun y=>eF ts.fields[i] y)=false:=by rw [hany];simp [eF];exact fun e=>absurd e.symm hq
      simp [go_sem,f1,f4,f3,f6,f5,hki,hkl,hlt,wk,jo hq];exact Keep.mk' ⟨by simp [go_sem,f1],by simp [go_sem,f4],by simp [go_sem,f3],by simp [go_sem],by rw [hany2];simp [go_sem],by simp [go_sem,fm]⟩
   ·have hke:k=i:=by omega
    subst hke;rw [hT] at hnx;cases T with
    |true =>
     simp [go_sem,f1,f4,f3,f6,f5,fm];refine vX (ys:=[(41,0)]) ho (by simp [qE]) (by simp;omega) fun av' m' ho' hm'=>?_
     simp [go_sem,f1,f4,wi];exact ⟨hlt,Keep.mk' ⟨by simp [go_sem,f1],by simp [go_sem],by rw [hnx,Qc,vo,if_pos rfl,←zf];simpa [go_sem] using ho',by simp only [qD];exact fun i hi=>(hm' i hi).trans (hm i hi)⟩⟩
    |false =>
     simp [go_sem,f1,f4,f3,f6,f5,fm,wi];exact ⟨hlt,Keep.mk' ⟨by simp [go_sem,f1],by simp [go_sem],by rw [hnx,Qc,vo,if_neg (by simp),zc];simpa [go_sem,f3,fm] using ho,by simp only [qD];exact hm⟩⟩
  ·have hie:i=ts.fields.length:=by omega
   subst hie;rw [zC (by rw [vT];exact qo _)] at ho;simp [go_sem,e1,e4,h3];exact ⟨by simpa using ho,hm⟩
end Go.Proofs.YtkglmpmlfjogkaaGreatDoor.QT


namespace Go.Proofs.YtkglmpmlfjogkaaGreatDoor.QU
open Go Go.Ev Go.Proofs Go.Proofs.YtkglmpmlfjogkaaGreatDoor YM YF Y9 Y10 Y1 Y2 Y3 Y12 Y13 Y14 Y15 Y16 YZ P1 P2 PA PB Q5 QA QD QE QF QG QH QI QJ QK QL QM QN PG QO QR QS QT
theorem qfT {ts:TS} {i:Nat} (hi:i<ts.preds.length):(∃ p:Nat,zg (ckR ts i) ts.preds[i].name=some p∧(ts.preds.take i).any (fun y=>eP ts.preds[i] y)=true)∨(zg (ckR ts i) ts.preds[i].name=none∧(ts.preds.take i).any (fun y=>eP ts.preds[i] y)=false):=by
 cases h:zg (ckR ts i) ts.preds[i].name with
 |some p =>
  left;refine ⟨p,rfl,?_⟩;unfold zg at h;rw [List.findIdx?_eq_some_iff_getElem] at h;obtain ⟨hp,a1,_⟩:=h;refine List.any_eq_true.2 ⟨_,qr hp,?_⟩;have a1:decide ((ts.preds.take i)[p].name=ts.preds[i].name)=true:=a1;have a1:(ts.preds.take i)[p].name=ts.preds[i].name:=by simpa using a1
  exact decide_eq_true a1.symm
 |none =>
  right;refine ⟨rfl,?_⟩;unfold zg at h;rw [List.findIdx?_eq_none_iff] at h;rw [List.any_eq_false];intro x hx;have:=h x hx;have:¬x.name=ts.preds[i].name:=by simpa using this
  simpa using fun e:ts.preds[i].name=x.name=>this e.symm
theorem Uh (d:Dg):(rp d).length≤1:=by unfold rp;split<;>simp
theorem rdDg {lo:Nat} {mu:Mu} {av:AV} {xs:List Dg} (h:OwnF lo mu 2 av (xs.map cDg)):Rd mu av (lDg xs):=by
 refine h.1.rd (qY.ok fun r hr=>?_) fun r hr c hc=>?_
 ·obtain ⟨n,_,rfl⟩:=qn.1 hr
  exact ⟨rfl,rfl⟩
 ·obtain ⟨n,_,rfl⟩:=qn.1 hr
  rcases qv.1 hc with rfl | hc
  ·exact HF.sc _
  ·rw [qK] at hc;subst hc;exact HF.sc _
theorem Qd {lo sz:Nat} {mu:Mu} {av:AV} {xs:List (List AV)} (h:OwnF lo mu sz av xs) (c:Cell):OwnF lo (mu++[c]) sz av xs:=⟨yY h.1 c,h.2.1,by have:=h.2.2;simp;omega⟩
theorem qfU (ts:TS) (h:okTS ts) (wp:∀ p,p∈ts.preds→WfN p.body) (i:Nat) (hi:i<ts.preds.length) (hd:depN ts.preds[i].body≤24):qi Tryz.prog 93 [eTS ts,aI i] (lDg (jH ts i)):=by
 have hpd:=h.pl _ (qr hi);have hnp:=h.np;have c1:=k9 ts h wp i (by omega) ts.preds[i].params ⟨by omega,hpd.2⟩ (by omega) ts.preds[i].body (wp _ (qr hi)) hd;have c2:=Jl (ckR ts i) (k7 h (by omega)) ts.preds[i].name;have hct:=qfT hi;have hp:jH ts i=dups [(ts.preds.take i).any (fun y=>eP ts.preds[i] y)]++(dups (repL eM ts.preds[i].params)++rp (yT (mkCk ts i) ts.preds[i].params ts.preds[i].body)):=by
  unfold jH;rw [qq hi];simp only;rw [KZ,qq hi]
 rw [hp];generalize hD:yT (mkCk ts i) ts.preds[i].params ts.preds[i].body=D at *
 generalize hb:(ts.preds.take i).any (fun y=>eP ts.preds[i] y)=b at *
 have hdl:(dups [b]).length≤1:=by cases b<;>simp [dups]
 refine qSQ Tryz.call93 Tryz.func93 rfl {} ?_;simp [go_sem];refine qd.intro (by kernel_rfl) ?_;simp [go_sem,hi,jC];refine qc.pure c2 (.cons (.hf (ze _)) (.cons (.hf (HF.sc _)) (.cons (.hf (HF.sc _)) .nil))) ?_;have wk:WKs [eTS ts,aI i,lPm ts.preds[i].params,eNd ts.preds[i].body] [eTS ts,aI i,lPm ts.preds[i].params,eNd ts.preds[i].body] := .cons (.hf (ze _)) (.cons (.hf (HF.sc _)) (.cons (.hf (yV _)) (.cons (.hf (qB _)) .nil)));have hrow:=jC;have fin:∀ st:St,True:=fun _=>trivial
 rcases hct with ⟨p,hc,hbt⟩ | ⟨hc,hbt⟩
 case' inl =>
  subst hbt;rw [hc];have hp0:(0:Int)≤(p:Int):=by omega
  simp [go_sem,idxO,hp0];refine vX (lo:=0) (xs:=[]) (ys:=[(41,0)]) (OwnF.nil (by simp)) (by simp [qE]) (by simp) fun av0 m0 ho0 _=>?_
  simp [go_sem,hi,jC]
 case' inr =>
  subst hbt;rw [hc];simp [go_sem,idxO,hi,jC]
 all_goals
  generalize hpp:ts.preds[i]=pd at *
 case' inl =>
  refine qk.upK pd.params.length (fun k st=>st.tm 2 = .ip (cTS ts)∧st.tm 1=aI i∧st.tm 6=lPm pd.params∧st.tm 7=aI k∧OwnF 0 st.mu 2 (st.tm 5) ((dups [true]++dups ((repL eM pd.params).take k)).map cDg)) ?_ ?_
  ·exact ⟨by simp [go_sem],by simp [go_sem],by simp [go_sem],by simp [go_sem],by simpa [go_sem,dups] using ho0⟩
 case' inr =>
  refine qk.upK pd.params.length (fun k st=>st.tm 2 = .ip (cTS ts)∧st.tm 1=aI i∧st.tm 6=lPm pd.params∧st.tm 7=aI k∧OwnF 0 st.mu 2 (st.tm 5) ((dups [false]++dups ((repL eM pd.params).take k)).map cDg)) ?_ ?_
  ·exact ⟨by simp [go_sem],by simp [go_sem],by simp [go_sem],by simp [go_sem],by simp [go_sem,dups];exact OwnF.nil (by simp)⟩
 all_goals
  rintro k st hk ⟨e2,e1,e6,e7,ho⟩;have hlen:(dups ((repL eM pd.params).take k)).length≤k:=zj (Y16.vh _) (List.length_take_le ..);generalize h5:st.tm 5=av at *
  by_cases hlt:k<pd.params.length
  ·have hnx:=UK eM pd.params k hlt
   have wi:IntKind.i64.wrap ((k:Int)+1)=(k:Int)+1:=qg (by omega) (by omega);simp [go_sem,e2,e1,e6,e7,h5,hlt];refine qk.upK k (fun j st2=>st2.tm 2 = .ip (cTS ts)∧st2.tm 1=aI i∧st2.tm 6=lPm pd.params∧st2.tm 7=aI k∧st2.tm 5=av∧st2.tm 9=aI j∧st2.tm 8=aB ((pd.params.take j).any fun y=>eM pd.params[k] y)∧st2.mu=st.mu) ?_ ?_
   ·exact ⟨by simp [go_sem,e2],by simp [go_sem,e1],by simp [go_sem,e6],by simp [go_sem,e7],by simp [go_sem,h5],by simp [go_sem],by simp [go_sem],by simp [go_sem]⟩
   rintro j st2 hj ⟨f2,f1,f6,f7,f5,f9,f8,fm⟩;generalize hT:(pd.params.take j).any (fun y=>eM pd.params[k] y)=T at *
   by_cases hjk:j<k
   ·have hjl:j<pd.params.length:=by omega
    have wj:IntKind.i64.wrap ((j:Int)+1)=(j:Int)+1:=qg (by omega) (by omega);have hany:=Jp (fun y=>eM pd.params[k] y) pd.params j hjl;rw [hT] at hany;simp [go_sem,f2,f1,f6,f7,f5,f9,f8,hjk];refine qd.intro (by kernel_rfl) ?_;cases T with
    |true =>
     rw [Bool.true_or] at hany;simp [go_sem,f2,f1,f6,f7,f5,f9,f8,hjk,hjl,hlt,wj];exact Keep.mk' ⟨by simp [go_sem,f2],by simp [go_sem,f1],by simp [go_sem,f6],by simp [go_sem,f7],by simp [go_sem,f5],by simp [go_sem],by rw [hany];simp [go_sem],by simp [go_sem,fm]⟩
    |false =>
     rw [Bool.false_or] at hany;by_cases hq:pd.params[j].1=pd.params[k].1
     ·have hany2:(pd.params.take (j+1)).any (fun y=>eM pd.params[k] y)=true:=by rw [hany];exact decide_eq_true hq.symm
      simp [go_sem,f2,f1,f6,f7,f5,f9,f8,hjk,hjl,hlt,wj,hq];exact Keep.mk' ⟨by simp [go_sem,f2],by simp [go_sem,f1],by simp [go_sem,f6],by simp [go_sem,f7],by simp [go_sem,f5],by simp [go_sem],by rw [hany2];simp [go_sem],by simp [go_sem,fm]⟩
     ·have hany2:(pd.params.take (j+1)).any (fun y=>eM pd.params[k] y)=false:=by rw [hany];exact decide_eq_false fun e=>hq e.symm
      simp [go_sem,f2,f1,f6,f7,f5,f9,f8,hjk,hjl,hlt,wj,jo hq];exact Keep.mk' ⟨by simp [go_sem,f2],by simp [go_sem,f1],by simp [go_sem,f6],by simp [go_sem,f7],by simp [go_sem,f5],by simp [go_sem],by rw [hany2];simp [go_sem],by simp [go_sem,fm]⟩
   ·have hje:j=k:=by omega
    subst hje;rw [hT] at hnx;cases T with
    |true =>
     simp [go_sem,f2,f1,f6,f7,f5,f9,f8,fm];refine vX (ys:=[(41,0)]) ho (by simp [qE]) (by simp;omega) fun av' m' ho' hm'=>?_
     simp [go_sem,f2,f1,f6,f7,wi];exact ⟨hlt,Keep.mk' ⟨by simp [go_sem,f2],by simp [go_sem,f1],by simp [go_sem,f6],by simp [go_sem],by rw [hnx,Qc,←zf];simpa [go_sem,vo] using ho'⟩⟩
    |false =>
     simp [go_sem,f2,f1,f6,f7,f5,f9,f8,fm,wi];exact ⟨hlt,Keep.mk' ⟨by simp [go_sem,f2],by simp [go_sem,f1],by simp [go_sem,f6],by simp [go_sem],by rw [hnx,Qc];simpa [go_sem,vo,f5,fm] using ho⟩⟩
  ·have hke:k=pd.params.length:=by omega
   subst hke;rw [zC (by rw [vT];exact qo _)] at ho hlen;simp [go_sem,e2,e1,e6,e7,h5];refine qd.intro (by kernel_rfl) ?_;simp [go_sem,e2,e1,e6,e7,h5,hi,hpp,jC];refine qc.pure c1 wk ?_;by_cases hd0:D.1=0
   ·have hrp:rp D=[]:=if_pos hd0
    rw [hrp];simp [go_sem,h5,hd0];exact rdDg (Qd ho _)
   ·have hrp:rp D=[D]:=if_neg hd0
    rw [hrp];simp [go_sem,h5,hd0];refine vX (ys:=[D]) (Qd ho _) (by simp [qE]) (by simp only [za,List.length_singleton];omega) fun av' m' ho' hm'=>?_
    simp [go_sem];rw [zf] at ho';exact rdDg ho'
theorem Zo (f:Nat→List Dg) (n:Nat):(List.range (n+1)).flatMap f=(List.range n).flatMap f++f n:=by
 rw [List.range_succ,List.flatMap_append];simp only [List.flatMap_cons,List.flatMap_nil,zc]
theorem qfV (ts:TS) (h:okTS ts) (wp:∀ p,p∈ts.preds→WfN p.body) (wf:∀ f,f∈ts.facts→WfN f.2) (dp:∀ p,p∈ts.preds→depN p.body≤24) (df:∀ f,f∈ts.facts→depN f.2≤24):qi Tryz.prog 48 [eTS ts] (lDg (uW ts)):=by
 have hnp:=h.np;have hnf:=h.nfa;have hD:(dups (repL eS ts.sorts)++dups (repL eF ts.fields)).length≤10:=by
  have a1:=Y16.vh (repL eS ts.sorts);have a2:=Y16.vh (repL eF ts.fields);rw [vT] at a1 a2;have:=h.ns;have:=h.nf;rw [za];omega
 have hC:uW ts=(dups (repL eS ts.sorts)++dups (repL eF ts.fields))++((List.range ts.preds.length).flatMap (jH ts)++(List.range ts.facts.length).flatMap (vU ts ts.facts)):=by
  unfold uW;rw [zf]
 rw [hC];have hdc:=qfS ts h [];generalize dups (repL eS ts.sorts)++dups (repL eF ts.fields)=D0 at *
 refine qSQ Tryz.call48 Tryz.func48 rfl {} ?_;simp [go_sem];refine qc.eff0 hdc (fun r m hr=>?_) (fun r m hr=>?_)
 case refine_2 =>
  obtain ⟨av,e,_⟩:=hr;cases e
 obtain ⟨av0,e,ho0,_⟩:=hr;cases e;simp [go_sem];refine qk.upK ts.preds.length (fun i st=>st.tm 1 = .ip (cTS ts)∧st.tm 4=aI i∧OwnF 0 st.mu 2 (st.tm 3) ((D0++(List.range i).flatMap (jH ts)).map cDg)) ?_ ?_
 ·exact ⟨by simp [go_sem],by simp [go_sem],by simpa [go_sem] using ho0⟩
 rintro i st hi ⟨e1,e4,ho⟩;have hlen:=Y16.Ui (jH ts) (Y16.KF h) i;generalize h3:st.tm 3=av at *
 by_cases hlt:i<ts.preds.length
 ·have hnx:=Zo (jH ts) i
  have hp1:=Y16.KF h i;have hdf:=qfU ts h wp i hlt (dp _ (qr hlt));have wi:IntKind.i64.wrap ((i:Int)+1)=(i:Int)+1:=qg (by omega) (by omega);generalize jH ts i=PD at *
  simp [go_sem,e1,e4,h3,hlt];refine qc.pure hdf (.cons (.hf (ze ts)) (.cons (.hf (HF.sc _)) .nil)) ?_;simp [go_sem,e1,e4,h3,hlt];refine vX (ys:=PD) ho (by simp [qE]) (by simp only [za];omega) fun av' m' ho' hm'=>?_
  simp [go_sem,e1,e4,wi];exact ⟨hlt,Keep.mk' ⟨by simp [go_sem,e1],by simp [go_sem],by rw [hnx,←zf];simpa [go_sem] using ho'⟩⟩
 ·have hie:i=ts.preds.length:=by omega
  subst hie;simp [go_sem,e1,e4,h3];generalize (List.range ts.preds.length).flatMap (jH ts)=P0 at *
  refine qk.upK ts.facts.length (fun i st=>st.tm 1 = .ip (cTS ts)∧st.tm 5=aI i∧OwnF 0 st.mu 2 (st.tm 3) (((D0++P0)++(List.range i).flatMap (vU ts ts.facts)).map cDg)) ?_ ?_
  ·exact ⟨by simp [go_sem,e1],by simp [go_sem],by simpa [go_sem,h3] using ho⟩
  clear ho e1 e4 h3 hlt hi st;rintro i st hi ⟨e1,e4,ho⟩;have hlen2:=Y16.Ui (vU ts ts.facts) (Y16.qcT ts ts.facts) i;generalize h3:st.tm 3=av2 at *
  by_cases hlt:i<ts.facts.length
  ·have hnx:=Zo (vU ts ts.facts) i
   have hfd:vU ts ts.facts i=dups [(ts.facts.take i).any (fun y=>eA ts.facts[i] y)]++rp (jb ts [] ts.facts[i].2):=by
    unfold vU;rw [qq hlt];simp only;rw [KZ,qq hlt]
   rw [hfd] at hnx;have cf:=qfR ts h wp [] ⟨by simp,by simp⟩ (by simp) ts.facts[i].2 (wf _ (qr hlt)) (df _ (qr hlt));have wi:IntKind.i64.wrap ((i:Int)+1)=(i:Int)+1:=qg (by omega) (by omega);generalize jb ts [] ts.facts[i].2=D at *
   simp [go_sem,e1,e4,h3,hlt];refine qk.upK i (fun k st2=>st2.tm 1 = .ip (cTS ts)∧st2.tm 5=aI i∧st2.tm 3=av2∧st2.tm 7=aI k∧st2.tm 6=aB ((ts.facts.take k).any fun y=>eA ts.facts[i] y)∧st2.mu=st.mu) ?_ ?_
   ·exact ⟨by simp [go_sem,e1],by simp [go_sem,e4],by simp [go_sem,h3],by simp [go_sem],by simp [go_sem],by simp [go_sem]⟩
   rintro k st2 hk ⟨f1,f4,f3,f6,f5,fm⟩;generalize hT:(ts.facts.take k).any (fun y=>eA ts.facts[i] y)=T at *
   by_cases hki:k<i
   ·have hkl:k<ts.facts.length:=by omega
    have wk:IntKind.i64.wrap ((k:Int)+1)=(k:Int)+1:=qg (by omega) (by omega);have hany:=Jp (fun y=>eA ts.facts[i] y) ts.facts k hkl;rw [hT] at hany;simp [go_sem,f1,f4,f3,f6,f5,hki];refine qd.intro (by kernel_rfl) ?_;cases T with
    |true =>
     rw [Bool.true_or] at hany;simp [go_sem,f1,f4,f3,f6,f5,hki,hkl,hlt,wk];exact Keep.mk' ⟨by simp [go_sem,f1],by simp [go_sem,f4],by simp [go_sem,f3],by simp [go_sem],by rw [hany];simp [go_sem],by simp [go_sem,fm]⟩
    |false =>
     rw [Bool.false_or] at hany;by_cases hq:ts.facts[k].1=ts.facts[i].1
     ·have hany2:(ts.facts.take (k+1)).any (fun y=>eA ts.facts[i] y)=true:=by rw [hany];exact decide_eq_true hq.symm
      simp [go_sem,f1,f4,f3,f6,f5,hki,hkl,hlt,wk,hq];exact Keep.mk' ⟨by simp [go_sem,f1],by simp [go_sem,f4],by simp [go_sem,f3],by simp [go_sem],by rw [hany2];simp [go_sem],by simp [go_sem,fm]⟩
     ·have hany2:(ts.facts.take (k+1)).any (fun y=>eA ts.facts[i] y)=false:=by rw [hany];exact decide_eq_false fun e=>hq e.symm
      simp [go_sem,f1,f4,f3,f6,f5,hki,hkl,hlt,wk,jo hq];exact Keep.mk' ⟨by simp [go_sem,f1],by simp [go_sem,f4],by simp [go_sem,f3],by simp [go_sem],by rw [hany2];simp [go_sem],by simp [go_sem,fm]⟩
   ·have hke:k=i:=by omega
    subst hke;rw [hT] at hnx;have wkf:WKs [eTS ts,.lst true [],eNd ts.facts[k].2] [eTS ts,lPm [],eNd ts.facts[k].2] := .cons (.hf (ze ts)) (.cons (WK.lst fun r hr=>absurd hr q9) (.cons (.hf (qB _)) .nil));have hrw:=Xy;cases T with
    |true =>
     simp [go_sem,f1,f4,f3,f6,f5,fm];refine vX (ys:=[(41,0)]) ho (by simp [qE]) (by simp only [za,List.length_singleton];omega) fun av' m' ho' hm'=>?_
     simp [go_sem,f1,f4,wi];refine qd.intro (by kernel_rfl) ?_;simp [go_sem,f1,f4,wi,hlt];refine qc.pure cf wkf ?_;by_cases hd0:D.1=0
     ·have hrp:rp D=[]:=if_pos hd0
      rw [hrp,zc] at hnx;simp [go_sem,f1,f3,f4,wi,hd0,fm];exact ⟨hlt,Keep.mk' ⟨by simp [go_sem,f1],by simp [go_sem],by rw [hnx,←zf];simpa [go_sem,vo] using Qd ho' (.arr [aI 0,aI D.2])⟩⟩
     ·have hrp:rp D=[D]:=if_neg hd0
      rw [hrp] at hnx;simp [go_sem,f1,f3,f4,wi,hd0,fm];refine vX (ys:=[D]) (Qd ho' _) (by simp [qE]) (by simp only [za,List.length_singleton];omega) fun av2' m2' ho2' hm2'=>?_
      simp [go_sem,f1,f4,wi];exact ⟨hlt,Keep.mk' ⟨by simp [go_sem,f1],by simp [go_sem],by rw [hnx,←zf];simpa [go_sem,vo,zf] using ho2'⟩⟩
    |false =>
     simp [go_sem,f1,f4,f3,f6,f5,fm,wi];refine qd.intro (by kernel_rfl) ?_;simp [go_sem,f1,f4,f3,f6,f5,fm,wi,hlt];refine qc.pure cf wkf ?_;by_cases hd0:D.1=0
     ·have hrp:rp D=[]:=if_pos hd0
      rw [hrp,zc] at hnx;simp [go_sem,f1,f3,f4,wi,hd0,fm];exact ⟨hlt,Keep.mk' ⟨by simp [go_sem,f1],by simp [go_sem],by rw [hnx,←zf];simpa [go_sem,vo,f3] using Qd ho (.arr [aI 0,aI D.2])⟩⟩
     ·have hrp:rp D=[D]:=if_neg hd0
      rw [hrp] at hnx;simp [go_sem,f1,f3,f4,wi,hd0,fm];refine vX (ys:=[D]) (Qd ho _) (by simp [qE]) (by simp only [za,List.length_singleton];omega) fun av2' m2' ho2' hm2'=>?_
      simp [go_sem,f1,f4,wi];exact ⟨hlt,Keep.mk' ⟨by simp [go_sem,f1],by simp [go_sem],by rw [hnx,←zf];simpa [go_sem,vo,zf] using ho2'⟩⟩
  ·have hie:i=ts.facts.length:=by omega
   subst hie;simp [go_sem,e1,e4,h3];rw [zf] at ho;exact rdDg ho
end Go.Proofs.YtkglmpmlfjogkaaGreatDoor.QU


namespace Go.Proofs.YtkglmpmlfjogkaaGreatDoor.QP
open Go Go.Ev Go.Proofs Go.Proofs.YtkglmpmlfjogkaaGreatDoor YM YF YV YW Y9 Y10 Y1 Y2 Y3 P1 P2 PA PB QD QE QF QG QH QI QJ QK QL QM QN QO
end Go.Proofs.YtkglmpmlfjogkaaGreatDoor.QP


namespace Go.Proofs.YtkglmpmlfjogkaaGreatDoor.QV
open Go Go.Ev Go.Proofs Go.Proofs.YtkglmpmlfjogkaaGreatDoor YM YF YV YW YZ Y9 Y10 Y1 Y2 Y3 Y14 Y15 P1 P2 PA PB QD QE QF QG QH QI QJ QK QL QM QN PG QO QP QR QS QT QU
abbrev tupR (s:RS) (m:Nat):List (List Int):=((List.range m).filter s.2).map (dig s.1)
theorem VO (s:RS) (m:Nat):(tupR s m).length≤m:=by
 rw [yj];exact zj (List.length_filter_le ..) (by simp)
end Go.Proofs.YtkglmpmlfjogkaaGreatDoor.QV


namespace Go.Proofs.YtkglmpmlfjogkaaGreatDoor.PD
open Go Go.Ev Go.Proofs Go.Proofs.YtkglmpmlfjogkaaGreatDoor YM YS YF P1 P2 Y1 Y2 Y3 Y4 Y5 Y9 Y10 Y12 Y14 Y16 YX YZ YA YB PA YC YE YG Q1 Q3 Q4 Q6 PB PC
structure ArgR (c0:Ck) (es:List (ByteArray×Bool)) (L:Int) (s':Scp) (k:Kd) (a:Nd):Prop where
 ex:∃ k',exam c0 s' true a = .ok (some k')∧Sub k' k
 good:GoodN es L a
 kd:kd a.op=101
def RlV (c0:Ck) (es:List (ByteArray×Bool)) (L:Int) (s':Scp) (v:ByteArray):Option Kd→Option IV→Prop
 |none,none=>True
 |none,some _=>False
 |some k,none=>∃ k',lookS v s'=some k'∧Sub k' k
 |some k,some ⟨some a,_,_⟩=>ArgR c0 es L s' k a
 |some k,some ⟨none,_,to⟩=>(∃ k',lookS to s'=some k'∧Sub k' k)∧vLe es L to
structure Rl (c0:Ck) (es:List (ByteArray×Bool)) (L:Int) (body:Bool) (s s':Scp) (env:IEnv):Prop where
 mean:∀ v,v∈s'→ja c0.ts v.1=[]
 rel:∀ v,tkn es v→RlV c0 es L s' v (lookS v s) (getK v env)
 arg:body=false→∀ v iv,getK v env=some iv→iv.arg=none
end Go.Proofs.YtkglmpmlfjogkaaGreatDoor.PD


namespace Go.Proofs.YtkglmpmlfjogkaaGreatDoor.PE
open Go Go.Ev Go.Proofs Go.Proofs.YtkglmpmlfjogkaaGreatDoor YM YS YF P1 P2 Y1 Y2 Y3 Y4 Y5 Y9 Y10 Y12 Y13 Y14 Y16 YX YZ YA YB PA YC YE YG Q1 Q3 Q4 Q6 PB PC PD
def OwnV (c0:Ck) (es:List (ByteArray×Bool)) (L:Int) (s':Scp):Option Kd→Option IV→Prop
 |none,none=>True
 |some k,some ⟨some a,_,_⟩=>ArgR c0 es L s' k a
 |_,_=>False
theorem kY {n:Nd} (hw:WfN n) (h:n.op=47):∀ k,k∈n.kids→kd k.op=101:=by
 have hsh:=hw.shape;have e:shp n.op n.kids.length=some (List.replicate (min n.kids.length 401) 101):=by
  unfold shp;rw [if_neg (by omega),if_neg (by omega),if_neg (by omega),if_neg (by omega),if_neg (by omega),if_neg (by omega),if_neg (by omega),if_pos h]
 rw [e] at hsh;simp only [Option.some.injEq] at hsh;intro k hk;have:kd k.op∈n.kids.map fun k=>kd k.op:=qn.2 ⟨k,hk,rfl⟩
 rw [←hsh] at this;exact List.eq_of_mem_replicate this
theorem kZ {n:Nd} (hw:WfN n) (h:n.op=15∨n.op=45∨n.op=46):∃ a f,n.kids=[a,f]∧kd a.op=101:=by
 have hs:=hw.shape;unfold shp at hs;rw [if_neg (by omega),if_neg (by omega),if_neg (by omega),if_pos (by omega)] at hs;simp only [Option.some.injEq] at hs
 match hk:n.kids,hs with
 | [a,f],hs =>
  simp at hs;exact ⟨a,f,rfl,hs.1.symm⟩
 | [],hs=>simp at hs
 | [_],hs=>simp at hs
 |_ :: _ :: _ :: _,hs=>simp at hs
end Go.Proofs.YtkglmpmlfjogkaaGreatDoor.PE


namespace Go.Proofs.YtkglmpmlfjogkaaGreatDoor.PF
open Go Go.Ev Go.Proofs Go.Proofs.YtkglmpmlfjogkaaGreatDoor YM YS YF P1 P2 Y1 Y2 Y3 Y4 Y5 Y9 Y10 Y12 Y13 Y14 Y16 YX YZ YA YB PA YC YE YG Q1 Q2 Q3 Q4 Q6 PB PC PD PE PG
end Go.Proofs.YtkglmpmlfjogkaaGreatDoor.PF


namespace Go.Proofs.YtkglmpmlfjogkaaGreatDoor.QW
open Go Go.Ev Go.Proofs Go.Proofs.YtkglmpmlfjogkaaGreatDoor YM YS YF Y9 Y10 Y1 Y2 Y3 Y4 YX YZ YA YB YC YE YG YH P1 P2 PA QD QE QK QV
theorem Up:∀ a b:List Nd,yy (a++b)=yy a++yy b
 | [],b=>rfl
 |x :: a,b=>by rw [List.cons_append];simp only [yy];rw [Up a b,zf]
end Go.Proofs.YtkglmpmlfjogkaaGreatDoor.QW


namespace Go.Proofs.YtkglmpmlfjogkaaGreatDoor.QX
open Go Go.Ev Go.Proofs Go.Proofs.YtkglmpmlfjogkaaGreatDoor YM YS YF Y9 Y10 Y1 Y2 Y3 Y4 YX YZ YA YB YC YE YG YH P1 P2 PA QD QE QK QV QW
theorem two {α:Type} {l:List α} {a b:α} (h0:l[0]?=some a) (h1:l[1]?=some b):∃ r,l=a :: b :: r:=by
 match l,h0,h1 with
 |_ :: _ :: r,h0,h1 =>
  simp at h0 h1;exact ⟨r,by rw [h0,h1]⟩
def cAr:Option Nd→List AV
 |some a=>cNd a
 |none=>[aI 0,aS ⟨#[]⟩,aI 0,.lst true [],aI 0]
@[go_sem] theorem cAr_some (a:Nd):cAr (some a)=cNd a:=rfl
@[go_sem] theorem cAr_none:cAr none=[aI 0,aS ⟨#[]⟩,aI 0,.lst true [],aI 0]:=rfl
theorem pa:∀(m:Nat) (n:Nd),szN n≤m→Small n→depN n≤1000000→qi Tryz.prog 73 [eNd n] (aI (depN n))
 | 0,n,hm,_,_=>by obtain ⟨op,nm,i,ks,p⟩:=n;simp [szN] at hm
 |m+1,n,hm,hs,hd=>by
  have ih:∀ k,k∈n.kids→qi Tryz.prog 73 [eNd k] (aI (depN k)):=fun k hk =>
   pa m k (by have:=zZ hk;omega) (hs.kid hk) (by rw [wV] at hd;have:=K1 hk;omega)
  rw [wV] at hd ⊢;have hlen:=hs.len;have hnn:=Jd n.kids;generalize hD:zS n.kids=D at *
  refine qSQ Tryz.call73 Tryz.func73 rfl {} ?_;simp [go_sem];refine qk.upK n.kids.length (fun k st=>∃ d,st.tm 3=aI d∧st.tm 1 = .ip (cNd n)∧st.tm 4=aI k∧0≤d∧max d (zS (n.kids.drop k))=D) ?_ ?_
  ·exact ⟨0,by simp [go_sem],by simp [go_sem],by simp [go_sem],by omega,by simp only [List.drop_zero,hD];omega⟩
  ·rintro k st hk ⟨d,e3,e1,e4,hd0,hI⟩
   by_cases hkl:k=n.kids.length
   ·subst hkl
    rw [List.drop_length] at hI;simp only [zS] at hI;have hdD:d=D:=by omega
    subst hdD;have w:IntKind.i64.wrap (d+1)=d+1:=qg (by omega) (by omega);simp [go_sem,e3,e1,e4,w];exact .hf _ (HF.sc _)
   ·have hlt:k<n.kids.length:=by omega
    have w1:IntKind.i64.wrap ((k:Int)+1)=(k:Int)+1:=qg (by omega) (by omega);rw [qX hlt] at hI;simp only [zS] at hI;simp [go_sem,e3,e1,e4,hlt,qj];refine qc.pure (ih n.kids[k] (qr hlt)) (.cons (.hf (qB _)) .nil) ?_;simp [go_sem,e3,e1,e4,w1];refine ⟨hlt,Keep.mk' ?_⟩;refine ⟨if d<depN n.kids[k] then depN n.kids[k] else d,by simp [go_sem],by simp [go_sem,e1],by simp [go_sem],?_,?_⟩
    ·have:=K0 n.kids[k]
     split<;>omega
    ·split<;>omega
end Go.Proofs.YtkglmpmlfjogkaaGreatDoor.QX


namespace Go.Proofs.YtkglmpmlfjogkaaGreatDoor.FE
open Go Go.Ev Go.Proofs Go.Proofs.YtkglmpmlfjogkaaGreatDoor Y1 Y2 Y9 Y16 YZ P1 P2 YM YS YF E1 E2 E3 E5 E7 E9 EA Q1 Q4 Q8 Q9 QX F1 F2 FA FB FC FD
theorem rd_ks {mu:Mu} (full:Bool) (ks:List Nd):Rd mu (.lst full (ks.map cNd)) (lNd ks):=by
 refine .wk _ full _ (.hf _ (HF.lst fun r hr c hc=>?_));obtain ⟨b,_,rfl⟩:=qn.1 hr;exact jz b c hc
theorem Jh {mu:Mu} (full:Bool) (op:Int) (nm:ByteArray) (i:Int) (ks:List Nd) (q:Int):Rd mu (.agg [aI op,aS nm,aI i,.lst full (ks.map cNd),aI q]) (eNd (.mk op nm i ks q)):=by
 have hq:cNd (.mk op nm i ks q)=[aI op,aS nm,aI i,lNd ks,aI q]:=by rw [y9];rfl
 rw [eNd,hq];refine .agg _ _ rfl fun k x y hx hy=>?_
 match k,hx,hy with
 | 0,hx,hy=>simp at hx hy;subst hx;subst hy;exact .hf _ (HF.sc _)
 | 1,hx,hy=>simp at hx hy;subst hx;subst hy;exact .hf _ (HF.sc _)
 | 2,hx,hy=>simp at hx hy;subst hx;subst hy;exact .hf _ (HF.sc _)
 | 3,hx,hy=>simp at hx hy;subst hx;subst hy;exact rd_ks full ks
 | 4,hx,hy=>simp at hx hy;subst hx;subst hy;exact .hf _ (HF.sc _)
 |k+5,hx,hy=>simp at hx
theorem qu (op:Int) (ks:List Nd):qi Tryz.prog 28 [aI op,lNd ks] (eNd (nk op ks)):=by
 refine qSQ Tryz.call28 Tryz.func28 rfl {} ?_;simp [go_sem];exact Jh false op ⟨#[]⟩ 0 ks 0
theorem yz (nm:ByteArray):qi Tryz.prog 46 [aS nm] (eNd (.mk 1 nm 0 [] 0)):=by
 refine qSQ Tryz.call46 Tryz.func46 rfl {} ?_;simp [go_sem];exact Jh true 1 nm 0 [] 0
theorem vY (op:Int) (nm:ByteArray) (d f:Nd):qi Tryz.prog 26 [aI op,aS nm,eNd d,eNd f] (eNd (nb op nm d f)):=by
 refine qSQ Tryz.call26 Tryz.func26 rfl {} ?_;simp [go_sem];exact Jh true op nm 0 [d,f] 0
theorem qfW (n:Nd):qi Tryz.prog 27 [eNd n] (aB (decide (kd n.op=102))):=by
 refine qSQ Tryz.call27 Tryz.func27 rfl {} ?_;simp [go_sem];refine qc.pure (KL n.op) (.cons (.hf (HF.sc _)) .nil) ?_;simp [go_sem];exact .hf _ (HF.sc _)
theorem wk5 (x:Mo) (p:Pl) (n:Nd):WKs [eTS x.ts,eMd x.m,aI p.st,lPm p.env,eNd n] [eTS x.ts,eMd x.m,aI p.st,lPm p.env,eNd n] := .cons (.hf (ze _)) (.cons (.hf (jD _)) (.cons (.hf (HF.sc _)) (.cons (.hf (yV _)) (.cons (.hf (qB _)) .nil))))
def samB (q r:Bool×Int):Bool:=decide (q.1=r.1)&&decide (q.2=r.2)
theorem qfX (x:Mo) (N:Nat) (hM:OkMa x N) (p:Pl) (hp:OkP x N p) (a b:Nd) (ha:WfN a) (hb:WfN b) (qa:bd p a) (qb:bd p b):qi Tryz.prog 29 [eTS x.ts,eMd x.m,aI p.st,lPm p.env,eNd a,eNd b] (aB (samB (fmV ((den x a).F p)) (fmV ((den x b).F p)))):=by
 have h1:=YY x N a ha hM p hp qa;have h2:=YY x N b hb hM p hp qb;rw [V9] at h1 h2;generalize fmV ((den x a).F p)=A at *
 generalize fmV ((den x b).F p)=B at *
 obtain ⟨a1,a2⟩:=A;obtain ⟨b1,b2⟩:=B;refine qSQ Tryz.call29 Tryz.func29 rfl {} ?_;simp [go_sem];refine qc.pure h1 (wk5 x p a) ?_;simp [go_sem];refine qc.pure h2 (wk5 x p b) ?_;by_cases h:a2=b2
 ·simp [go_sem,samB,h]
  cases a1<;>cases b1<;>simp [go_sem,h]<;>exact .hf _ (HF.sc _)
 ·simp [go_sem,samB,h]
  cases a1<;>cases b1<;>simp [go_sem,h]<;>exact .hf _ (HF.sc _)
theorem pb:∀(m:Nat) (n:Nd),szN n≤m→∀ left:Int,-1000000≤left∧left≤1000000→qi Tryz.prog 72 [eNd n,aI left] (aI (cntN n left))
 | 0,n,hm,_,_=>by obtain ⟨op,nm,i,ks,p⟩:=n;simp [szN] at hm
 |m+1,n,hm,left,hl=>by
  have ih:∀ k,k∈n.kids→∀ left:Int,-1000000≤left∧left≤1000000→qi Tryz.prog 72 [eNd k,aI left] (aI (cntN k left)):=fun k hk =>
   pb m k (by have:=zZ hk;omega)
  rw [Uk];generalize hR:yh n.kids left 1=R;refine qSQ Tryz.call72 Tryz.func72 rfl {} ?_;simp [go_sem];refine qk.upK n.kids.length (fun k st=>∃ sum:Int,st.tm 1=aI left∧st.tm 2 = .ip (cNd n)∧st.tm 5=aI sum∧st.tm 6=aI k∧(k:Int)+1≤sum∧(sum≤left+1∨sum=1)∧yh (n.kids.drop k) left sum=R) ?_ ?_
  ·exact ⟨1,by simp [go_sem],by simp [go_sem],by simp [go_sem],by simp [go_sem],by omega,by omega,by simpa using hR⟩
  ·rintro k st hk ⟨sum,e1,e2,e5,e6,hs1,hs2,hI⟩
   by_cases hkl:k=n.kids.length
   ·subst hkl
    rw [List.drop_length] at hI;simp only [yh] at hI;subst hI;simp [go_sem,e1,e2,e5,e6];exact .hf _ (HF.sc _)
   ·have hlt:k<n.kids.length:=by omega
    rw [qX hlt] at hI;simp only [yh] at hI;by_cases hc:sum≤left
    ·rw [if_pos hc] at hI
     have w1:IntKind.i64.wrap ((k:Int)+1)=(k:Int)+1:=qg (by omega) (by omega);have w2:IntKind.i64.wrap (left-sum)=left-sum:=qg (by omega) (by omega);have hcl:=Jb n.kids[k] (left-sum);have w3:IntKind.i64.wrap (sum+cntN n.kids[k] (left-sum))=sum+cntN n.kids[k] (left-sum):=qg (by omega) (by omega);simp [go_sem,e1,e2,e5,e6,hlt,hc,w2,qj];refine qc.pure (ih n.kids[k] (qr hlt) (left-sum) ⟨by omega,by omega⟩) (.cons (.hf (qB _)) (.cons (.hf (HF.sc _)) .nil)) ?_;simp [go_sem,e1,e2,e5,e6,w1,w3];refine ⟨hlt,Keep.mk' ?_⟩;exact ⟨sum+cntN n.kids[k] (left-sum),by simp [go_sem,e1],by simp [go_sem,e2],by simp [go_sem],by simp [go_sem],by omega,by omega,hI⟩
    ·rw [if_neg hc] at hI
     subst hI;simp [go_sem,e1,e2,e5,e6,hlt,hc];exact .hf _ (HF.sc _)
def zy (op a s:Int) (i:Nat) (k:Int):Int:=if op=48∨op=49∨op=51 then k*s else if i=1∧(op=45∨op=46∨op=15) then k*a else k
def minW (v:Int):Int:=if 1000000<v then 1000000 else v
mutual
def wkN (a s:Int):Nd→Int
 | .mk op _ _ ks _=>wkNs a s op 0 ks 1
def wkNs (a s op:Int):Nat→List Nd→Int→Int
 |_,[],sum=>sum
 |i,k :: ks,sum=>wkNs a s op (i+1) ks (minW (sum+zy op a s i (wkN a s k)))
end
theorem qfY (a s:Int) (n:Nd):wkN a s n=wkNs a s n.op 0 n.kids 1:=by
 obtain ⟨op,nm,i,ks,q⟩:=n;rw [wkN];rfl
theorem pf {op a s:Int} {i:Nat} {k:Int} (ha:0≤a∧a≤100) (hs:0≤s∧s≤100) (hk:0≤k∧k≤1000000):0≤zy op a s i k∧zy op a s i k≤100000000:=by
 unfold zy;have m1:=Int.mul_nonneg hk.1 ha.1;have m2:=Int.mul_nonneg hk.1 hs.1;have m3:k*a≤1000000*100:=Int.mul_le_mul hk.2 ha.2 ha.1 (by omega);have m4:k*s≤1000000*100:=Int.mul_le_mul hk.2 hs.2 hs.1 (by omega);split
 ·omega
 ·split<;>omega
theorem pg {v:Int} (h:0≤v):0≤minW v∧minW v≤1000000:=by unfold minW;split<;>omega
mutual
theorem ph (a s:Int) (ha:0≤a∧a≤100) (hs:0≤s∧s≤100):∀ n:Nd,0≤wkN a s n∧wkN a s n≤1000000
 | .mk op _ _ ks _=>by rw [wkN];exact pi a s ha hs op ks 0 1 (by omega)
theorem pi (a s:Int) (ha:0≤a∧a≤100) (hs:0≤s∧s≤100) (op:Int):∀(ks:List Nd) (i:Nat) (sum:Int),0≤sum∧sum≤1000000→0≤wkNs a s op i ks sum∧wkNs a s op i ks sum≤1000000
 | [],_,sum,h=>by rw [wkNs];exact h
 |k :: ks,i,sum,h=>by
  rw [wkNs];have h1:=ph a s ha hs k;have h2:=pf (op:=op) (i:=i) ha hs h1;exact pi a s ha hs op ks (i+1) _ (pg (by omega))
end
theorem pj (a s:Int) (ha:0≤a∧a≤100) (hs:0≤s∧s≤100):∀(m:Nat) (n:Nd),szN n≤m→Small n→qi Tryz.prog 50 [eNd n,aI a,aI s] (aI (wkN a s n))
 | 0,n,hm,_=>by obtain ⟨op,nm,i,ks,p⟩:=n;simp [szN] at hm
 |m+1,n,hm,hsm=>by
  have ih:∀ k,k∈n.kids→qi Tryz.prog 50 [eNd k,aI a,aI s] (aI (wkN a s k)):=fun k hk=>pj a s ha hs m k (by have:=zZ hk;omega) (hsm.kid hk)
  rw [qfY];have hlen:=hsm.len;generalize hR:wkNs a s n.op 0 n.kids 1=R;refine qSQ Tryz.call50 Tryz.func50 rfl {} ?_;simp [go_sem];refine qk.upK n.kids.length (fun k st=>∃ sum:Int,st.tm 1=aI a∧st.tm 2=aI s∧st.tm 3 = .ip (cNd n)∧st.tm 7=aI sum∧st.tm 8=aI k∧(0≤sum∧sum≤1000000)∧wkNs a s n.op k (n.kids.drop k) sum=R) ?_ ?_
  ·exact ⟨1,by simp [go_sem],by simp [go_sem],by simp [go_sem],by simp [go_sem],by simp [go_sem],by omega,by simpa using hR⟩
  ·rintro k st hk ⟨sum,e1,e2,e3,e7,e8,hs1,hI⟩
   by_cases hkl:k=n.kids.length
   ·subst hkl
    rw [List.drop_length,wkNs] at hI;subst hI;simp [go_sem,e1,e2,e3,e7,e8];exact .hf _ (HF.sc _)
   ·have hlt:k<n.kids.length:=by omega
    rw [qX hlt,wkNs] at hI;have w1:IntKind.i64.wrap ((k:Int)+1)=(k:Int)+1:=qg (by omega) (by omega);have hwk:=ph a s ha hs n.kids[k];have hsl:=pf (op:=n.op) (i:=k) ha hs hwk;have hml:=pg (v:=sum+zy n.op a s k (wkN a s n.kids[k])) (by omega);have m1:=Int.mul_nonneg hwk.1 ha.1;have m2:=Int.mul_nonneg hwk.1 hs.1;have m3:wkN a s n.kids[k] * a≤1000000*100:=Int.mul_le_mul hwk.2 ha.2 ha.1 (by omega);have m4:wkN a s n.kids[k] * s≤1000000*100:=Int.mul_le_mul hwk.2 hs.2 hs.1 (by omega);simp [go_sem,e1,e2,e3,e7,e8,hlt,qj];refine qc.pure (ih n.kids[k] (qr hlt)) (.cons (.hf (qB _)) (.cons (.hf (HF.sc _)) (.cons (.hf (HF.sc _)) .nil))) ?_;generalize wkN a s n.kids[k]=K at *
    by_cases ik:k=1
    ·have ik':(k:Int)=1:=by omega
     by_cases o48:n.op=48
     ·have hv:zy n.op a s k K=K*s:=by simp [zy,o48,ik,ik']
      rw [hv] at hI hml;have w2:IntKind.i64.wrap (K*s)=K*s:=qg (by omega) (by omega);have w3:IntKind.i64.wrap (sum+K*s)=sum+K*s:=qg (by omega) (by omega);simp [go_sem,e1,e2,e3,e7,e8,w1,w2,w3,hlt,o48,eq_true ik,eq_true ik'];exact Keep.mk' ⟨_,by simp [go_sem,e1],by simp [go_sem,e2],by simp [go_sem,e3],by simp [go_sem,minW],by simp [go_sem],hml,hI⟩
     by_cases o49:n.op=49
     ·have hv:zy n.op a s k K=K*s:=by simp [zy,o49,ik,ik']
      rw [hv] at hI hml;have w2:IntKind.i64.wrap (K*s)=K*s:=qg (by omega) (by omega);have w3:IntKind.i64.wrap (sum+K*s)=sum+K*s:=qg (by omega) (by omega);simp [go_sem,e1,e2,e3,e7,e8,w1,w2,w3,hlt,o49,eq_true ik,eq_true ik'];exact Keep.mk' ⟨_,by simp [go_sem,e1],by simp [go_sem,e2],by simp [go_sem,e3],by simp [go_sem,minW],by simp [go_sem],hml,hI⟩
     by_cases o51:n.op=51
     ·have hv:zy n.op a s k K=K*s:=by simp [zy,o51,ik,ik']
      rw [hv] at hI hml;have w2:IntKind.i64.wrap (K*s)=K*s:=qg (by omega) (by omega);have w3:IntKind.i64.wrap (sum+K*s)=sum+K*s:=qg (by omega) (by omega);simp [go_sem,e1,e2,e3,e7,e8,w1,w2,w3,hlt,o51,eq_true ik,eq_true ik'];exact Keep.mk' ⟨_,by simp [go_sem,e1],by simp [go_sem,e2],by simp [go_sem,e3],by simp [go_sem,minW],by simp [go_sem],hml,hI⟩
     by_cases o45:n.op=45
     ·have hv:zy n.op a s k K=K*a:=by simp [zy,o45,ik,ik']
      rw [hv] at hI hml;have w2:IntKind.i64.wrap (K*a)=K*a:=qg (by omega) (by omega);have w3:IntKind.i64.wrap (sum+K*a)=sum+K*a:=qg (by omega) (by omega);simp [go_sem,e1,e2,e3,e7,e8,w1,w2,w3,hlt,o45,eq_true ik,eq_true ik'];exact Keep.mk' ⟨_,by simp [go_sem,e1],by simp [go_sem,e2],by simp [go_sem,e3],by simp [go_sem,minW],by simp [go_sem],hml,hI⟩
     by_cases o46:n.op=46
     ·have hv:zy n.op a s k K=K*a:=by simp [zy,o46,ik,ik']
      rw [hv] at hI hml;have w2:IntKind.i64.wrap (K*a)=K*a:=qg (by omega) (by omega);have w3:IntKind.i64.wrap (sum+K*a)=sum+K*a:=qg (by omega) (by omega);simp [go_sem,e1,e2,e3,e7,e8,w1,w2,w3,hlt,o46,eq_true ik,eq_true ik'];exact Keep.mk' ⟨_,by simp [go_sem,e1],by simp [go_sem,e2],by simp [go_sem,e3],by simp [go_sem,minW],by simp [go_sem],hml,hI⟩
     by_cases o15:n.op=15
     ·have hv:zy n.op a s k K=K*a:=by simp [zy,o15,ik,ik']
      rw [hv] at hI hml;have w2:IntKind.i64.wrap (K*a)=K*a:=qg (by omega) (by omega);have w3:IntKind.i64.wrap (sum+K*a)=sum+K*a:=qg (by omega) (by omega);simp [go_sem,e1,e2,e3,e7,e8,w1,w2,w3,hlt,o15,eq_true ik,eq_true ik'];exact Keep.mk' ⟨_,by simp [go_sem,e1],by simp [go_sem,e2],by simp [go_sem,e3],by simp [go_sem,minW],by simp [go_sem],hml,hI⟩
     have hv:zy n.op a s k K=K:=by simp [zy,o48,o49,o51,o45,o46,o15,ik,ik']
     rw [hv] at hI hml;have w2:=w1;have w3:IntKind.i64.wrap (sum+K)=sum+K:=qg (by omega) (by omega);simp [go_sem,e1,e2,e3,e7,e8,w1,w2,w3,hlt,o48,o49,o51,o45,o46,o15,eq_true ik,eq_true ik'];exact Keep.mk' ⟨_,by simp [go_sem,e1],by simp [go_sem,e2],by simp [go_sem,e3],by simp [go_sem,minW],by simp [go_sem],hml,hI⟩
    ·have ik':¬(k:Int)=1:=by omega
     by_cases o48:n.op=48
     ·have hv:zy n.op a s k K=K*s:=by simp [zy,o48,ik,ik']
      rw [hv] at hI hml;have w2:IntKind.i64.wrap (K*s)=K*s:=qg (by omega) (by omega);have w3:IntKind.i64.wrap (sum+K*s)=sum+K*s:=qg (by omega) (by omega);simp [go_sem,e1,e2,e3,e7,e8,w1,w2,w3,hlt,o48,ik,ik'];exact Keep.mk' ⟨_,by simp [go_sem,e1],by simp [go_sem,e2],by simp [go_sem,e3],by simp [go_sem,minW],by simp [go_sem],hml,hI⟩
     by_cases o49:n.op=49
     ·have hv:zy n.op a s k K=K*s:=by simp [zy,o49,ik,ik']
      rw [hv] at hI hml;have w2:IntKind.i64.wrap (K*s)=K*s:=qg (by omega) (by omega);have w3:IntKind.i64.wrap (sum+K*s)=sum+K*s:=qg (by omega) (by omega);simp [go_sem,e1,e2,e3,e7,e8,w1,w2,w3,hlt,o49,ik,ik'];exact Keep.mk' ⟨_,by simp [go_sem,e1],by simp [go_sem,e2],by simp [go_sem,e3],by simp [go_sem,minW],by simp [go_sem],hml,hI⟩
     by_cases o51:n.op=51
     ·have hv:zy n.op a s k K=K*s:=by simp [zy,o51,ik,ik']
      rw [hv] at hI hml;have w2:IntKind.i64.wrap (K*s)=K*s:=qg (by omega) (by omega);have w3:IntKind.i64.wrap (sum+K*s)=sum+K*s:=qg (by omega) (by omega);simp [go_sem,e1,e2,e3,e7,e8,w1,w2,w3,hlt,o51,ik,ik'];exact Keep.mk' ⟨_,by simp [go_sem,e1],by simp [go_sem,e2],by simp [go_sem,e3],by simp [go_sem,minW],by simp [go_sem],hml,hI⟩
     have hv:zy n.op a s k K=K:=by simp [zy,o48,o49,o51,ik,ik']
     rw [hv] at hI hml;have w2:=w1;have w3:IntKind.i64.wrap (sum+K)=sum+K:=qg (by omega) (by omega);simp [go_sem,e1,e2,e3,e7,e8,w1,w2,w3,hlt,o48,o49,o51,ik,ik'];exact Keep.mk' ⟨_,by simp [go_sem,e1],by simp [go_sem,e2],by simp [go_sem,e3],by simp [go_sem,minW],by simp [go_sem],hml,hI⟩
end Go.Proofs.YtkglmpmlfjogkaaGreatDoor.FE


namespace Go.Proofs.YtkglmpmlfjogkaaGreatDoor.FF
open Go Go.Ev Go.Proofs Go.Proofs.YtkglmpmlfjogkaaGreatDoor Y1 Y2 Y9 Y16 YZ P1 P2 YM YS YF E1 E2 E3 E5 E7 E9 EA Q1 Q4 Q8 Q9 QX F1 F2 FA FB FC FD FE
mutual
theorem Jq:∀ n:Nd,depN n=(dN n:Int)
 | .mk _ _ _ ks _=>by simp only [depN,dN];rw [pk ks];omega
theorem pk:∀ ks:List Nd,zS ks=(dNs ks:Int)
 | []=>rfl
 |k :: ks=>by simp only [zS,dNs];rw [Jq k,pk ks];omega
end
def u3 (m:Md) (n:Nd):Bool:=zq n&&decide (wkN (sumI m.sc.atoms) m.states.length n≤3000)
theorem qfZ (m:Md) (g:GSc m.sc) (hs:m.states.length≤64) (n:Nd):qi Tryz.prog 13 [eMd m,eNd n] (aB (u3 m n)):=by
 have hv:=Um n;have hsum:=g.sum m.sc.atoms.length;rw [zb] at hsum;refine qSQ Tryz.call13 Tryz.func13 rfl {} ?_;simp [go_sem];refine qc.pure hv (.cons (.hf (qB n)) .nil) ?_;cases hb:zq n with
 |false =>
  simp [go_sem,u3,hb];refine qd.intro (by kernel_rfl) ?_;simp [go_sem];exact .hf _ (HF.sc _)
 |true =>
  have hw:=pj (sumI m.sc.atoms) m.states.length (by omega) (by omega) (szN n) n (qo _) (jI hb).small;simp [go_sem,u3,hb];refine qd.intro (by kernel_rfl) ?_;simp [go_sem];refine qc.pure (Zs m.sc g) (.cons (.hf (yK m.sc)) .nil) ?_;simp [go_sem];refine qc.pure hw (.cons (.hf (qB n)) (.cons (.hf (HF.sc _)) (.cons (.hf (HF.sc _)) .nil))) ?_;simp [go_sem];exact .hf _ (HF.sc _)
def smB (m:Md) (n:Nd):Bool:=u3 m n&&(decide (cntN n 90≤90)&&decide (depN n≤18))
theorem qf0 (m:Md) (g:GSc m.sc) (hs:m.states.length≤64) (n:Nd):qi Tryz.prog 25 [eMd m,eNd n] (aB (smB m n)):=by
 have hl:=qfZ m g hs n;have hc:=pb (szN n) n (qo _) 90 (by omega);refine qSQ Tryz.call25 Tryz.func25 rfl {} ?_;simp [go_sem];refine qc.pure hl (.cons (.hf (jD m)) (.cons (.hf (qB n)) .nil)) ?_;cases hb:u3 m n with
 |false =>
  simp [go_sem,smB,hb];exact .hf _ (HF.sc _)
 |true =>
  have hvb:zq n=true:=by simp only [u3,Bool.and_eq_true] at hb;exact hb.1
  have hd:=pa (szN n) n (qo _) (jI hvb).small (by rw [Jq];have:=vj hvb;omega);simp [go_sem,smB,hb];refine qc.pure hc (.cons (.hf (qB n)) (.cons (.hf (HF.sc _)) .nil)) ?_;by_cases h9:cntN n 90≤90
  ·simp [go_sem,h9]
   refine qc.pure hd (.cons (.hf (qB n)) .nil) ?_;simp [go_sem];exact .hf _ (HF.sc _)
  ·simp [go_sem,h9]
   exact .hf _ (HF.sc _)
noncomputable def fitB (ts:TS) (m:Md) (s:Int) (env:List (ByteArray×Int)) (D:List Dg):Bool:=
 zQ ts&&(wQ (spOf ts) m&&(dec (MVal (spOf ts) m)&&(decide (D.length=0)&&(decide (0≤s)&&(decide (s<m.states.length)&&(decide (env.length≤8)&&env.all fun e=>decide (0≤e.2)&&decide (e.2<sumI m.sc.atoms)))))))
theorem pm {p:Prop} (h:dec p=true):p:=@of_decide_eq_true p (Classical.propDecidable p) h
theorem qf1 (ts:TS) (m:Md) (s:Int) (env:List (ByteArray×Int)) (D:List Dg) (hD:zQ ts=true→qi Tryz.prog 48 [eTS ts] (lDg D)):qi Tryz.prog 12 [eTS ts,eMd m,aI s,lPm env] (aB (fitB ts m s env D)):=by
 generalize hR:fitB ts m s env D=R;unfold fitB at hR;refine qSQ Tryz.call12 Tryz.func12 rfl {} ?_;simp [go_sem];refine qc.pure (qc5 ts) (.cons (.hf (ze ts)) .nil) ?_;cases h1:zQ ts with
 |false =>
  rw [h1] at hR;replace hR:false=R:=hR;subst hR;simp [go_sem];exact .hf _ (HF.sc _)
 |true =>
  rw [h1,Bool.true_and] at hR;simp [go_sem];refine qc.pure (qcK (spOf ts) m) (.cons (.hf (ze ts)) (.cons (.hf (jD _)) .nil)) ?_;cases h2:wQ (spOf ts) m with
  |false =>
   rw [h2] at hR;replace hR:false=R:=hR;subst hR;simp [go_sem];exact .hf _ (HF.sc _)
  |true =>
   rw [h2,Bool.true_and] at hR;simp [go_sem];refine qc.pure (qcN (spOf ts) m (Ue.1 h2)) (.cons (.hf (ze ts)) (.cons (.hf (jD _)) .nil)) ?_;cases h3:dec (MVal (spOf ts) m) with
   |false =>
    rw [h3] at hR;replace hR:false=R:=hR;subst hR;simp [go_sem];exact .hf _ (HF.sc _)
   |true =>
    rw [h3,Bool.true_and] at hR;simp [go_sem];refine qc.pure (hD h1) (.cons (.hf (ze ts)) .nil) ?_;by_cases c1:0<D.length
    ·rw [decide_eq_false (show ¬D.length=0 by omega)] at hR;replace hR:false=R:=hR;subst hR
     simp [go_sem,c1];exact .hf _ (HF.sc _)
    rw [decide_eq_true (show D.length=0 by omega),Bool.true_and] at hR;by_cases c2:s<0
    ·rw [decide_eq_false (show ¬ 0≤s by omega)] at hR;replace hR:false=R:=hR;subst hR
     simp [go_sem,c1,c2];exact .hf _ (HF.sc _)
    rw [decide_eq_true (show 0≤s by omega),Bool.true_and] at hR;by_cases c3:(m.states.length:Int)≤s
    ·rw [decide_eq_false (show ¬s<m.states.length by omega)] at hR;replace hR:false=R:=hR;subst hR
     simp [go_sem,c1,c2,c3];exact .hf _ (HF.sc _)
    rw [decide_eq_true (show s<m.states.length by omega),Bool.true_and] at hR;by_cases c4:(8:Int)<env.length
    ·rw [decide_eq_false (show ¬env.length≤8 by omega)] at hR;replace hR:false=R:=hR;subst hR
     simp [go_sem,c1,c2,c3,c4];exact .hf _ (HF.sc _)
    rw [decide_eq_true (show env.length≤8 by omega),Bool.true_and] at hR;have hmv:MVal (spOf ts) m:=pm h3;have hg:GSc m.sc:=Uc hmv.sc;simp [go_sem,c1,c2,c3,c4];refine qc.pure (Zs m.sc hg) (.cons (.hf (yK m.sc)) .nil) ?_;simp [go_sem];refine qk.upK env.length (fun k st=>st.tm 3=lPm env∧st.tm 10=aI (sumI m.sc.atoms)∧st.tm 11=aI k∧((env.drop k).all fun e=>decide (0≤e.2)&&decide (e.2<sumI m.sc.atoms))=R) ?_ ?_
    ·exact ⟨by simp [go_sem],by simp [go_sem],by simp [go_sem],hR⟩
    rintro k st hk ⟨e3,e10,e11,hI⟩;by_cases hlt:k<env.length
    ·have w1:IntKind.i64.wrap ((k:Int)+1)=(k:Int)+1:=qg (by omega) (by omega)
     rw [qX hlt,List.all_cons] at hI;by_cases d1:env[k].2<0
     ·rw [decide_eq_false (show ¬ 0≤env[k].2 by omega)] at hI;replace hI:false=R:=hI;subst hI
      simp [go_sem,e3,e10,e11,hlt,d1];exact .hf _ (HF.sc _)
     rw [decide_eq_true (show 0≤env[k].2 by omega),Bool.true_and] at hI;by_cases d2:sumI m.sc.atoms≤env[k].2
     ·rw [decide_eq_false (show ¬env[k].2<sumI m.sc.atoms by omega)] at hI;replace hI:false=R:=hI;subst hI
      simp [go_sem,e3,e10,e11,hlt,d1,d2];exact .hf _ (HF.sc _)
     rw [decide_eq_true (show env[k].2<sumI m.sc.atoms by omega),Bool.true_and] at hI;simp [go_sem,e3,e10,e11,hlt,d1,d2,w1];exact Keep.mk' ⟨by simp [go_sem,e3],by simp [go_sem,e10],by simp [go_sem],hI⟩
    ·have hge:k=env.length:=by omega
     subst hge;rw [List.drop_length] at hI;replace hI:true=R:=hI;subst hI;simp [go_sem,e3,e10,e11];exact .hf _ (HF.sc _)
end Go.Proofs.YtkglmpmlfjogkaaGreatDoor.FF


namespace Go.Proofs.YtkglmpmlfjogkaaGreatDoor.FH
open Go Go.Ev Go.Proofs Go.Proofs.YtkglmpmlfjogkaaGreatDoor YM YS YF P1 P2 Y1 Y2 Y3 Y4 Y5 Y6 Y7 Y8 Y9 Y10 Y11 Y12 Y13 Y14 Y15 Y16 YU YV YW YX YZ YA YB PA YC YD YE YG Q4 Q6 YH
theorem qf2 (ts:TS) (h:okTS ts) (hwp:∀ p,p∈ts.preds→WfN p.body) (n:Nd) (hw:WfN n) (hcall:anyN (fun n=>decide (n.op=47)) n=false):qi Tryz.prog 71 [eTS ts,eNd n] (.tup [eNd (wW ts n).1,aI (wW ts n).2]):=by
 generalize hR:wW ts n=R;unfold wW at hR;refine qSQ Tryz.call71 Tryz.func71 rfl { mt:=[25] } ?_;simp [go_sem];refine qc.pure (qcS ts h hwp n hw [] ⟨by simp,by simp⟩) (.cons (.hf (ze ts)) (.cons (WK.lst fun r hr=>absurd hr q9) (.cons (.hf (qB n)) .nil))) ?_;simp [go_sem];by_cases hc:(jb ts [] n).1=0
 case neg =>
  rw [if_pos hc] at hR;subst hR;simp [go_sem,hc];refine qd.move 2 1 (by kernel_rfl) (by kernel_rfl) ?_ ?_
  all_goals
   simp [go_sem,hc];exact qdH _ _
 case pos =>
  rw [if_neg (by simpa using hc)] at hR;simp [go_sem,hc];have hin:∀(v:List Nd) (k:Nd) (mu:Mu),InM ts (putN [] v) (v.any fun n=>decide (n.op=47)) mu→qJ Tryz.prog 134 (eNd k :: [.ptr 4 0,.ptr 5 0]) mu fun e m=>e = .ret (.tup [])∧InM ts (putN [] (v++[k])) ((v++[k]).any fun n=>decide (n.op=47)) m:=fun v k mu hI=>by
   refine (qdD ts ⟨0,0⟩ 2 _ _ k hI.p hI.x hI.c hI.t).monoR ?_;rintro e m ⟨rfl,rfl⟩;refine ⟨rfl,?_⟩;rw [List.any_append];simp only [putN,List.foldl_append,List.foldl_cons,List.foldl_nil,List.any_cons,List.any_nil,Bool.or_false];exact hI.setT.setC
  refine qc.eff0 (K3 (caps:=[.ptr 4 0,.ptr 5 0]) (fun v mu=>InM ts (putN [] v) (v.any fun n=>decide (n.op=47)) mu) (fun v mu l h=>h.push l) hin (szN n) n (qo _) hw.small [] _ ⟨rfl,rfl,rfl,rfl,rfl⟩) ?_ (by rintro r m ⟨e,_⟩;cases e);rintro r m ⟨e,hI⟩;cases e;rw [List.nil_append,←K7 _ (szN n) n (qo _),hcall] at hI;have hml:=hI.len;have hset:∀ c,(m.set 0 c)[0]?=some c:=fun c=>qR (by omega)
  rw [if_pos hcall] at hR;subst hR;simp [go_sem,hI.c,hI.r,hset,qj];exact .hf _ (HF.tup fun c hc=>by simp at hc;rcases hc with rfl | rfl;exact qB n;exact HF.sc _)
end Go.Proofs.YtkglmpmlfjogkaaGreatDoor.FH


namespace Go.Proofs.YtkglmpmlfjogkaaGreatDoor.FG
open Go Go.Ev Go.Proofs Go.Proofs.YtkglmpmlfjogkaaGreatDoor Y1 Y2 Y9 Y16 YZ P1 P2 YM YG Y14 YS Q6 YF E1 E2 E3 E4 E5 E7 E9 EA Q1 Q4 Q8 Q9 QX QB F1 F2 FA FB FC FD FE FF
def hA:ByteArray:=⟨#[65]⟩
def hf:ByteArray:=⟨#[102]⟩
def hx:ByteArray:=⟨#[120]⟩
def hg:ByteArray:=⟨#[103]⟩
def hp:ByteArray:=⟨#[112]⟩
def hAf:ByteArray:=⟨#[65,95,102,105,114,115,116]⟩
def hAn:ByteArray:=⟨#[65,95,110,101,120,116]⟩
def nm (b:ByteArray):Nd := .mk 1 b 0 [] 0
def tsH:TS:=⟨[(hA,true)],[⟨hf,[0,0],true⟩],[],[]⟩
def mdH:Md:=⟨⟨[2],2⟩,[[⟨2,[1]⟩],[⟨2,[1,2]⟩]],1⟩
abbrev xH:Mo:=⟨tsH,mdH⟩
def qV:Nd:=nk 9 [nm hf,nm hf]
def ZG:Nd:=nk 38 [nk 21 [nk 13 [nm hf]],.mk 20 ⟨#[]⟩ 3 [] 0]
def ZH:Nd:=nb 45 hx (nm hA) (nk 37 [nk 9 [nm hx,nm hf]])
def ZI:Nd:=nb 15 hx (nm hA) (nk 35 [nk 9 [nm hx,nm hf]])
def eqH:Nd:=nk 33 [nm hf,nk 9 [nm hAf,nm hAn]]
def untH:Nd:=nk 51 [nk 35 [qV],nk 48 [nk 34 [qV]]]
def inH:Nd:=nk 32 [nm hf,nm hA]
def UL:Nd := .mk 47 hp 0 [] 0
theorem v1:fmV ((den xH (nk 34 [qV])).F ⟨0,[]⟩)=(false,0):=by decide +kernel
theorem v2:fmV ((den xH ZG).F ⟨0,[]⟩)=(true,0):=by decide +kernel
theorem v3:fmV ((den xH ZH).F ⟨0,[]⟩)=(true,0):=by decide +kernel
theorem v4:(den xH ZI).E ⟨0,[]⟩ = .ok ⟨1,[1]⟩:=by rfl
theorem v5:(den xH (nk 21 [nk 5 [qV]])).N ⟨0,[]⟩ = .ok 2:=by rfl
theorem v6:fmV ((den xH eqH).F ⟨0,[(hf,1)]⟩)=(true,0):=by decide +kernel
theorem v7:fmV ((den xH untH).F ⟨0,[]⟩)=(true,0):=by decide +kernel
theorem v8:(den xH (nm hg)).E ⟨0,[]⟩ = .error 40:=by rfl
theorem v9:fmV ((den xH inH).F ⟨0,[]⟩)=(false,42):=by decide +kernel
theorem v10:fmV ((den xH UL).F ⟨0,[]⟩)=(false,45):=by decide +kernel
theorem v11:(den xH (nm hf)).N ⟨0,[]⟩ = .error 43:=by rfl
theorem v12:fmV ((den xH (nk 34 [nm hf])).F ⟨0,[]⟩)=(true,0):=by decide +kernel
theorem pn:okTS tsH:=⟨by decide,by decide,by decide,by decide,fun x hx=>by
 have:x=(hA,true):=by simpa [tsH] using hx
 subst this;decide,fun f hf'=>by
 have:f=⟨hf,[0,0],true⟩:=by simpa [tsH] using hf'
 subst this;exact ⟨by decide,by decide,fun x hx=>by simp at hx;subst hx;decide⟩,fun p hp=>by simp [tsH] at hp⟩
theorem okMH:OkMa xH 2:=by
 refine { len:=rfl,nx:=?_,n0:=by decide,n12:=by decide,st:=?_,at0:=?_,gsc:=⟨by decide,fun a ha=>?_⟩,pos:=fun a ha=>?_,al:=rfl,loop:=by decide,N1:=by decide,ts:=pn }
 ·intro t ht
  match t,ht with
  | 0,_=>decide
  | 1,_=>decide
  |t+2,ht=>omega
 ·intro s hs
  match s,hs with
  | 0,_=>exact ⟨rfl,fun r hr=>by
    have:r=⟨2,[1]⟩:=by simpa [mdH] using hr
    subst this;exact Un (by decide +kernel)⟩
  | 1,_=>exact ⟨rfl,fun r hr=>by
    have:r=⟨2,[1,2]⟩:=by simpa [mdH] using hr
    subst this;exact Un (by decide +kernel)⟩
  |s+2,hs=>omega
 ·intro i hi
  match i,hi with
  | 0,_=>decide
  |i+1,hi=>exact absurd hi (by simp [tsH])
 ·have:a=2:=by simpa [mdH] using ha
  subst this;decide
 ·have:a=2:=by simpa [mdH] using ha
  subst this;decide
theorem okPH:OkP xH 2 ⟨0,[]⟩:=⟨by decide,fun e he=>by simp at he⟩
theorem pp:OkP xH 2 ⟨0,[(hf,1)]⟩:=⟨by decide,fun e he=>by
 have:e=(hf,1):=by simpa using he
 subst this;decide⟩
theorem wS:WK (.agg [.lst true [[aS hA,aB true]],.lst true [[aS hf,.lst true [[aI 0],[aI 0]],aB true]],.lst true [],.lst true []]) (eTS tsH):=
 WK.aggs ⟨yi ⟨⟨.hf (HF.sc _),.hf (HF.sc _),trivial⟩,trivial⟩,yi ⟨⟨.hf (HF.sc _),yi ⟨⟨.hf (HF.sc _),trivial⟩,⟨.hf (HF.sc _),trivial⟩,trivial⟩,.hf (HF.sc _),trivial⟩,trivial⟩,yi trivial,yi trivial,trivial⟩
theorem wM:WK (.agg [.lst true [[aI 2]],aI 2,.lst true [[.lst true [[aI 2,.lst true [[aI 1]]]]],[.lst true [[aI 2,.lst true [[aI 1],[aI 2]]]]]],aI 1]) (eMd mdH):=
 WK.aggs ⟨yi ⟨⟨.hf (HF.sc _),trivial⟩,trivial⟩,.hf (HF.sc _),yi ⟨⟨yi ⟨⟨.hf (HF.sc _),yi ⟨⟨.hf (HF.sc _),trivial⟩,trivial⟩,trivial⟩,trivial⟩,trivial⟩,⟨yi ⟨⟨.hf (HF.sc _),yi ⟨⟨.hf (HF.sc _),trivial⟩,⟨.hf (HF.sc _),trivial⟩,trivial⟩,trivial⟩,trivial⟩,trivial⟩,trivial⟩,.hf (HF.sc _),trivial⟩
theorem wE:WK (.lst true []) (lPm []):=WK.lst fun r hr=>absurd hr q9
theorem wEv (n:Nd) {env:AV} {l:List (ByteArray×Int)} (h:WK env (lPm l)):WKs [.agg [.lst true [[aS hA,aB true]],.lst true [[aS hf,.lst true [[aI 0],[aI 0]],aB true]],.lst true [],.lst true []],.agg [.lst true [[aI 2]],aI 2,.lst true [[.lst true [[aI 2,.lst true [[aI 1]]]]],[.lst true [[aI 2,.lst true [[aI 1],[aI 2]]]]]],aI 1],aI (0:Nat),env,eNd n] [eTS xH.ts,eMd xH.m,aI (0:Nat),lPm l,eNd n] := .cons wS (.cons wM (.cons (.hf (HF.sc _)) (.cons h (.cons (.hf (qB _)) .nil))))
theorem wN (op:Int) (l:List Nd):WKs [aI op,.lst true (l.map cNd)] [aI op,lNd l] := .cons (.hf (HF.sc _)) (.cons (wkNd l) .nil)
theorem wB (op:Int) (nm:ByteArray) (d f:Nd):WKs [aI op,aS nm,eNd d,eNd f] [aI op,aS nm,eNd d,eNd f] := .cons (.hf (HF.sc _)) (.cons (.hf (HF.sc _)) (.cons (.hf (qB _)) (.cons (.hf (qB _)) .nil)))
theorem evH (n:Nd) (hv:zq n=true) (p:Pl) (hp:OkP xH 2 p) (hq:p.env.length≤10) (q:Bool×Int) (e:fmV ((den xH n).F p)=q):qi Tryz.prog 18 [eTS xH.ts,eMd xH.m,aI p.st,lPm p.env,eNd n] (.tup [aB q.1,aI q.2]):=by
 have h:=YY xH 2 n (jI hv) okMH p hp (by have:=vj hv;show _+_≤_;omega);rw [V9,e] at h;exact h
theorem wEv2 {n:Nd} {nv env:AV} {l:List (ByteArray×Int)} (hn:WK nv (eNd n)) (h:WK env (lPm l)):WKs [.agg [.lst true [[aS hA,aB true]],.lst true [[aS hf,.lst true [[aI 0],[aI 0]],aB true]],.lst true [],.lst true []],.agg [.lst true [[aI 2]],aI 2,.lst true [[.lst true [[aI 2,.lst true [[aI 1]]]]],[.lst true [[aI 2,.lst true [[aI 1],[aI 2]]]]]],aI 1],aI (0:Nat),env,nv] [eTS xH.ts,eMd xH.m,aI (0:Nat),lPm l,eNd n] := .cons wS (.cons wM (.cons (.hf (HF.sc _)) (.cons h (.cons hn .nil))))
theorem wEb:WK (.lst true [[aS hf,aI 1]]) (lPm [(hf,1)]):=yi ⟨⟨.hf (HF.sc _),.hf (HF.sc _),trivial⟩,trivial⟩
theorem exH (n:Nd) (hv:zq n=true) (p:Pl) (hp:OkP xH 2 p) (hq:p.env.length≤10) (q:XE Rl) (e:(den xH n).E p=q):qi Tryz.prog 14 [eTS xH.ts,eMd xH.m,aI p.st,lPm p.env,eNd n] (outE q):=by
 have h:=exprP xH 2 n (jI hv) okMH p hp (by have:=vj hv;show _+_≤_;omega);rw [e] at h;exact h
theorem inHU (n:Nd) (hv:zq n=true) (p:Pl) (hp:OkP xH 2 p) (hq:p.env.length≤10) (q:XE Int) (e:(den xH n).N p=q):qi Tryz.prog 16 [eTS xH.ts,eMd xH.m,aI p.st,lPm p.env,eNd n] (outN q):=by
 have h:=intP xH 2 n (jI hv) okMH p hp (by have:=vj hv;show _+_≤_;omega);rw [e] at h;exact h
@[go_sem] theorem outE_ok (r:Rl):outE (.ok r) = .tup [eRel r,aI 0]:=rfl
@[go_sem] theorem outE_err (e:Int):outE (.error e) = .tup [eRel ⟨0,[]⟩,aI e]:=rfl
@[go_sem] theorem outN_ok (r:Int):outN (.ok r) = .tup [aI r,aI 0]:=rfl
@[go_sem] theorem outN_err (e:Int):outN (.error e) = .tup [aI 0,aI e]:=rfl
theorem v13:wW tsH (nk 34 [nm hf])=(nk 34 [nm hf],0):=by
 have h:(jb tsH [] (nk 34 [nm hf])).1=0:=by decide +kernel
 have h2:anyN (fun n=>decide (n.op=47)) (nk 34 [nm hf])=false:=by decide +kernel
 unfold wW;rw [if_neg (by simpa using h),if_pos h2]
theorem hoH:qi Tryz.prog 23 [eTS xH.ts,eMd xH.m,eNd (nk 34 [nm hf])] (.tup [aB true,aI 0]):=by
 have hi:=FH.qf2 tsH pn (fun p hp=>by simp [tsH] at hp) (nk 34 [nm hf]) (jI (by decide +kernel)) (by decide +kernel);rw [v13] at hi;have h:=qcC xH 2 okMH (by decide) (fun b=>(b,0)) (nk 34 [nm hf]) (by decide) fun b hb=>by
  have:b=nk 34 [nm hf]:=by simpa [tsH] using hb
  subst this;exact ⟨hi,fun _=>⟨jI (by decide +kernel),by decide +kernel⟩⟩
 have e:vg (fun b=>(b,0)) xH (xH.ts.facts.map Prod.snd++[nk 34 [nm hf]]) true=(true,0):=by
  show vg (fun b=>(b,0)) xH [nk 34 [nm hf]] true=(true,0);simp only [vg,v12];rfl
 rw [e] at h;exact h
theorem wHo:WKs [.agg [.lst true [[aS hA,aB true]],.lst true [[aS hf,.lst true [[aI 0],[aI 0]],aB true]],.lst true [],.lst true []],.agg [.lst true [[aI 2]],aI 2,.lst true [[.lst true [[aI 2,.lst true [[aI 1]]]]],[.lst true [[aI 2,.lst true [[aI 1],[aI 2]]]]]],aI 1],eNd (nk 34 [nm hf])] [eTS xH.ts,eMd xH.m,eNd (nk 34 [nm hf])] := .cons wS (.cons wM (.cons (.hf (qB _)) .nil))
theorem eqHU:qi Tryz.prog 20 [eRel ⟨1,[1]⟩,eRel ⟨1,[1]⟩] (aB true):=XW ⟨1,[1]⟩ ⟨1,[1]⟩ (by decide)
theorem qf3:qi Tryz.prog 11 [] (aB true):=by
 refine qSQ Tryz.call11 Tryz.func11 rfl {} ?_;simp [go_sem]
 first | refine qc.pure (yz hf) (.cons (.hf (HF.sc _)) .nil) ?_ | (refine qd.intro (by kernel_rfl) ?_;simp [go_sem];refine qc.pure (yz hf) (.cons (.hf (HF.sc _)) .nil) ?_)
 simp [go_sem,qj]
 first | refine qc.pure (qu 9 [nm hf,nm hf]) (wN 9 [nm hf,nm hf]) ?_ | (refine qd.intro (by kernel_rfl) ?_;simp [go_sem];refine qc.pure (qu 9 [nm hf,nm hf]) (wN 9 [nm hf,nm hf]) ?_)
 simp [go_sem,qj]
 first | refine qc.pure (qu 13 [nm hf]) (wN 13 [nm hf]) ?_ | (refine qd.intro (by kernel_rfl) ?_;simp [go_sem];refine qc.pure (qu 13 [nm hf]) (wN 13 [nm hf]) ?_)
 simp [go_sem,qj]
 first | refine qc.pure (qu 21 [nk 13 [nm hf]]) (wN 21 [nk 13 [nm hf]]) ?_ | (refine qd.intro (by kernel_rfl) ?_;simp [go_sem];refine qc.pure (qu 21 [nk 13 [nm hf]]) (wN 21 [nk 13 [nm hf]]) ?_)
 simp [go_sem,qj]
 first | refine qc.pure (qu 38 [nk 21 [nk 13 [nm hf]],.mk 20 ⟨#[]⟩ 3 [] 0]) (.cons (.hf (HF.sc _)) (.cons (yi ⟨Ut (jz (nk 21 [nk 13 [nm hf]])),Uu 20 ⟨#[]⟩ 3 0 (yi trivial),trivial⟩) .nil)) ?_ | (refine qd.intro (by kernel_rfl) ?_;simp [go_sem];refine qc.pure (qu 38 [nk 21 [nk 13 [nm hf]],.mk 20 ⟨#[]⟩ 3 [] 0]) (.cons (.hf (HF.sc _)) (.cons (yi ⟨Ut (jz (nk 21 [nk 13 [nm hf]])),Uu 20 ⟨#[]⟩ 3 0 (yi trivial),trivial⟩) .nil)) ?_)
 simp [go_sem,qj]
 first | refine qc.pure (yz hA) (.cons (.hf (HF.sc _)) .nil) ?_ | (refine qd.intro (by kernel_rfl) ?_;simp [go_sem];refine qc.pure (yz hA) (.cons (.hf (HF.sc _)) .nil) ?_)
 simp [go_sem,qj]
 first | refine qc.pure (yz hx) (.cons (.hf (HF.sc _)) .nil) ?_ | (refine qd.intro (by kernel_rfl) ?_;simp [go_sem];refine qc.pure (yz hx) (.cons (.hf (HF.sc _)) .nil) ?_)
 simp [go_sem,qj]
 first | refine qc.pure (qu 9 [nm hx,nm hf]) (wN 9 [nm hx,nm hf]) ?_ | (refine qd.intro (by kernel_rfl) ?_;simp [go_sem];refine qc.pure (qu 9 [nm hx,nm hf]) (wN 9 [nm hx,nm hf]) ?_)
 simp [go_sem,qj]
 first | refine qc.pure (qu 37 [nk 9 [nm hx,nm hf]]) (wN 37 [nk 9 [nm hx,nm hf]]) ?_ | (refine qd.intro (by kernel_rfl) ?_;simp [go_sem];refine qc.pure (qu 37 [nk 9 [nm hx,nm hf]]) (wN 37 [nk 9 [nm hx,nm hf]]) ?_)
 simp [go_sem,qj]
 first | refine qc.pure (vY 45 hx (nm hA) (nk 37 [nk 9 [nm hx,nm hf]])) (wB 45 hx (nm hA) (nk 37 [nk 9 [nm hx,nm hf]])) ?_ | (refine qd.intro (by kernel_rfl) ?_;simp [go_sem];refine qc.pure (vY 45 hx (nm hA) (nk 37 [nk 9 [nm hx,nm hf]])) (wB 45 hx (nm hA) (nk 37 [nk 9 [nm hx,nm hf]])) ?_)
 simp [go_sem,qj]
 first | refine qc.pure (yz hA) (.cons (.hf (HF.sc _)) .nil) ?_ | (refine qd.intro (by kernel_rfl) ?_;simp [go_sem];refine qc.pure (yz hA) (.cons (.hf (HF.sc _)) .nil) ?_)
 simp [go_sem,qj]
 first | refine qc.pure (yz hx) (.cons (.hf (HF.sc _)) .nil) ?_ | (refine qd.intro (by kernel_rfl) ?_;simp [go_sem];refine qc.pure (yz hx) (.cons (.hf (HF.sc _)) .nil) ?_)
 simp [go_sem,qj]
 first | refine qc.pure (qu 9 [nm hx,nm hf]) (wN 9 [nm hx,nm hf]) ?_ | (refine qd.intro (by kernel_rfl) ?_;simp [go_sem];refine qc.pure (qu 9 [nm hx,nm hf]) (wN 9 [nm hx,nm hf]) ?_)
 simp [go_sem,qj]
 first | refine qc.pure (qu 35 [nk 9 [nm hx,nm hf]]) (wN 35 [nk 9 [nm hx,nm hf]]) ?_ | (refine qd.intro (by kernel_rfl) ?_;simp [go_sem];refine qc.pure (qu 35 [nk 9 [nm hx,nm hf]]) (wN 35 [nk 9 [nm hx,nm hf]]) ?_)
 simp [go_sem,qj]
 first | refine qc.pure (vY 15 hx (nm hA) (nk 35 [nk 9 [nm hx,nm hf]])) (wB 15 hx (nm hA) (nk 35 [nk 9 [nm hx,nm hf]])) ?_ | (refine qd.intro (by kernel_rfl) ?_;simp [go_sem];refine qc.pure (vY 15 hx (nm hA) (nk 35 [nk 9 [nm hx,nm hf]])) (wB 15 hx (nm hA) (nk 35 [nk 9 [nm hx,nm hf]])) ?_)
 simp [go_sem,qj]
 first | refine qc.pure (qu 34 [qV]) (wN 34 [qV]) ?_ | (refine qd.intro (by kernel_rfl) ?_;simp [go_sem];refine qc.pure (qu 34 [qV]) (wN 34 [qV]) ?_)
 simp [go_sem,qj]
 first | refine qc.pure (evH (nk 34 [qV]) (by decide +kernel) ⟨0,[]⟩ okPH (by decide) (false,0) v1) (wEv (nk 34 [qV]) wE) ?_ | (refine qd.intro (by kernel_rfl) ?_;simp [go_sem];refine qc.pure (evH (nk 34 [qV]) (by decide +kernel) ⟨0,[]⟩ okPH (by decide) (false,0) v1) (wEv (nk 34 [qV]) wE) ?_)
 simp [go_sem,qj]
 first | refine qc.pure (evH (ZG) (by decide +kernel) ⟨0,[]⟩ okPH (by decide) (true,0) v2) (wEv (ZG) wE) ?_ | (refine qd.intro (by kernel_rfl) ?_;simp [go_sem];refine qc.pure (evH (ZG) (by decide +kernel) ⟨0,[]⟩ okPH (by decide) (true,0) v2) (wEv (ZG) wE) ?_)
 simp [go_sem,qj]
 first | refine qc.pure (evH (ZH) (by decide +kernel) ⟨0,[]⟩ okPH (by decide) (true,0) v3) (wEv (ZH) wE) ?_ | (refine qd.intro (by kernel_rfl) ?_;simp [go_sem];refine qc.pure (evH (ZH) (by decide +kernel) ⟨0,[]⟩ okPH (by decide) (true,0) v3) (wEv (ZH) wE) ?_)
 simp [go_sem,qj]
 first | refine qc.pure (exH (ZI) (by decide +kernel) ⟨0,[]⟩ okPH (by decide) _ v4) (wEv ZI wE) ?_ | (refine qd.intro (by kernel_rfl) ?_;simp [go_sem];refine qc.pure (exH (ZI) (by decide +kernel) ⟨0,[]⟩ okPH (by decide) _ v4) (wEv ZI wE) ?_)
 simp [go_sem,qj]
 first | refine qc.pure (qu 5 [qV]) (wN 5 [qV]) ?_ | (refine qd.intro (by kernel_rfl) ?_;simp [go_sem];refine qc.pure (qu 5 [qV]) (wN 5 [qV]) ?_)
 simp [go_sem,qj]
 first | refine qc.pure (qu 21 [nk 5 [qV]]) (wN 21 [nk 5 [qV]]) ?_ | (refine qd.intro (by kernel_rfl) ?_;simp [go_sem];refine qc.pure (qu 21 [nk 5 [qV]]) (wN 21 [nk 5 [qV]]) ?_)
 simp [go_sem,qj]
 first | refine qc.pure (inHU (nk 21 [nk 5 [qV]]) (by decide +kernel) ⟨0,[]⟩ okPH (by decide) _ v5) (wEv (nk 21 [nk 5 [qV]]) wE) ?_ | (refine qd.intro (by kernel_rfl) ?_;simp [go_sem];refine qc.pure (inHU (nk 21 [nk 5 [qV]]) (by decide +kernel) ⟨0,[]⟩ okPH (by decide) _ v5) (wEv (nk 21 [nk 5 [qV]]) wE) ?_)
 simp [go_sem,qj]
 first | refine qc.pure (yz hAf) (.cons (.hf (HF.sc _)) .nil) ?_ | (refine qd.intro (by kernel_rfl) ?_;simp [go_sem];refine qc.pure (yz hAf) (.cons (.hf (HF.sc _)) .nil) ?_)
 simp [go_sem,qj]
 first | refine qc.pure (yz hAn) (.cons (.hf (HF.sc _)) .nil) ?_ | (refine qd.intro (by kernel_rfl) ?_;simp [go_sem];refine qc.pure (yz hAn) (.cons (.hf (HF.sc _)) .nil) ?_)
 simp [go_sem,qj]
 first | refine qc.pure (qu 9 [nm hAf,nm hAn]) (wN 9 [nm hAf,nm hAn]) ?_ | (refine qd.intro (by kernel_rfl) ?_;simp [go_sem];refine qc.pure (qu 9 [nm hAf,nm hAn]) (wN 9 [nm hAf,nm hAn]) ?_)
 simp [go_sem,qj]
 first | refine qc.pure (qu 33 [nm hf,nk 9 [nm hAf,nm hAn]]) (wN 33 [nm hf,nk 9 [nm hAf,nm hAn]]) ?_ | (refine qd.intro (by kernel_rfl) ?_;simp [go_sem];refine qc.pure (qu 33 [nm hf,nk 9 [nm hAf,nm hAn]]) (wN 33 [nm hf,nk 9 [nm hAf,nm hAn]]) ?_)
 simp [go_sem,qj]
 first | refine qc.pure (evH (eqH) (by decide +kernel) ⟨0,[(hf,1)]⟩ pp (by decide) (true,0) v6) (wEv (eqH) wEb) ?_ | (refine qd.intro (by kernel_rfl) ?_;simp [go_sem];refine qc.pure (evH (eqH) (by decide +kernel) ⟨0,[(hf,1)]⟩ pp (by decide) (true,0) v6) (wEv (eqH) wEb) ?_)
 simp [go_sem,qj]
 first | refine qc.pure (qu 35 [qV]) (wN 35 [qV]) ?_ | (refine qd.intro (by kernel_rfl) ?_;simp [go_sem];refine qc.pure (qu 35 [qV]) (wN 35 [qV]) ?_)
 simp [go_sem,qj]
 first | refine qc.pure (qu 34 [qV]) (wN 34 [qV]) ?_ | (refine qd.intro (by kernel_rfl) ?_;simp [go_sem];refine qc.pure (qu 34 [qV]) (wN 34 [qV]) ?_)
 simp [go_sem,qj]
 first | refine qc.pure (qu 48 [nk 34 [qV]]) (wN 48 [nk 34 [qV]]) ?_ | (refine qd.intro (by kernel_rfl) ?_;simp [go_sem];refine qc.pure (qu 48 [nk 34 [qV]]) (wN 48 [nk 34 [qV]]) ?_)
 simp [go_sem,qj]
 first | refine qc.pure (qu 51 [nk 35 [qV],nk 48 [nk 34 [qV]]]) (wN 51 [nk 35 [qV],nk 48 [nk 34 [qV]]]) ?_ | (refine qd.intro (by kernel_rfl) ?_;simp [go_sem];refine qc.pure (qu 51 [nk 35 [qV],nk 48 [nk 34 [qV]]]) (wN 51 [nk 35 [qV],nk 48 [nk 34 [qV]]]) ?_)
 simp [go_sem,qj]
 first | refine qc.pure (evH (untH) (by decide +kernel) ⟨0,[]⟩ okPH (by decide) (true,0) v7) (wEv (untH) wE) ?_ | (refine qd.intro (by kernel_rfl) ?_;simp [go_sem];refine qc.pure (evH (untH) (by decide +kernel) ⟨0,[]⟩ okPH (by decide) (true,0) v7) (wEv (untH) wE) ?_)
 simp [go_sem,qj]
 first | refine qc.pure (yz hg) (.cons (.hf (HF.sc _)) .nil) ?_ | (refine qd.intro (by kernel_rfl) ?_;simp [go_sem];refine qc.pure (yz hg) (.cons (.hf (HF.sc _)) .nil) ?_)
 simp [go_sem,qj]
 first | refine qc.pure (exH (nm hg) (by decide +kernel) ⟨0,[]⟩ okPH (by decide) _ v8) (wEv (nm hg) wE) ?_ | (refine qd.intro (by kernel_rfl) ?_;simp [go_sem];refine qc.pure (exH (nm hg) (by decide +kernel) ⟨0,[]⟩ okPH (by decide) _ v8) (wEv (nm hg) wE) ?_)
 simp [go_sem,qj]
 first | refine qc.pure (yz hA) (.cons (.hf (HF.sc _)) .nil) ?_ | (refine qd.intro (by kernel_rfl) ?_;simp [go_sem];refine qc.pure (yz hA) (.cons (.hf (HF.sc _)) .nil) ?_)
 simp [go_sem,qj]
 first | refine qc.pure (qu 32 [nm hf,nm hA]) (wN 32 [nm hf,nm hA]) ?_ | (refine qd.intro (by kernel_rfl) ?_;simp [go_sem];refine qc.pure (qu 32 [nm hf,nm hA]) (wN 32 [nm hf,nm hA]) ?_)
 simp [go_sem,qj]
 first | refine qc.pure (evH (inH) (by decide +kernel) ⟨0,[]⟩ okPH (by decide) (false,42) v9) (wEv (inH) wE) ?_ | (refine qd.intro (by kernel_rfl) ?_;simp [go_sem];refine qc.pure (evH (inH) (by decide +kernel) ⟨0,[]⟩ okPH (by decide) (false,42) v9) (wEv (inH) wE) ?_)
 simp [go_sem,qj]
 first | refine qc.pure (evH UL (by decide +kernel) ⟨0,[]⟩ okPH (by decide) (false,45) v10) (wEv2 (kn 47 hp 0 0 (yi trivial)) wE) ?_ | (refine qd.intro (by kernel_rfl) ?_;simp [go_sem];refine qc.pure (evH UL (by decide +kernel) ⟨0,[]⟩ okPH (by decide) (false,45) v10) (wEv2 (kn 47 hp 0 0 (yi trivial)) wE) ?_)
 simp [go_sem,qj]
 first | refine qc.pure (inHU (nm hf) (by decide +kernel) ⟨0,[]⟩ okPH (by decide) _ v11) (wEv (nm hf) wE) ?_ | (refine qd.intro (by kernel_rfl) ?_;simp [go_sem];refine qc.pure (inHU (nm hf) (by decide +kernel) ⟨0,[]⟩ okPH (by decide) _ v11) (wEv (nm hf) wE) ?_)
 simp [go_sem,qj]
 first | refine qc.pure (qu 34 [nm hf]) (wN 34 [nm hf]) ?_ | (refine qd.intro (by kernel_rfl) ?_;simp [go_sem];refine qc.pure (qu 34 [nm hf]) (wN 34 [nm hf]) ?_)
 simp [go_sem,qj]
 first | refine qc.pure (hoH) (wHo) ?_ | (refine qd.intro (by kernel_rfl) ?_;simp [go_sem];refine qc.pure (hoH) (wHo) ?_)
 simp [go_sem,qj]
 first | refine qc.pure (eqHU) (.cons (.hf (qN ⟨1,[1]⟩)) (.cons (WK.aggs ⟨.hf (HF.sc _),yi ⟨⟨.hf (HF.sc _),trivial⟩,trivial⟩,trivial⟩) .nil)) ?_ | (refine qd.intro (by kernel_rfl) ?_;simp [go_sem];refine qc.pure (eqHU) (.cons (.hf (qN ⟨1,[1]⟩)) (.cons (WK.aggs ⟨.hf (HF.sc _),yi ⟨⟨.hf (HF.sc _),trivial⟩,trivial⟩,trivial⟩) .nil)) ?_)
 simp [go_sem,qj];exact .hf _ (HF.sc _)
end Go.Proofs.YtkglmpmlfjogkaaGreatDoor.FG


namespace Go.Proofs.YtkglmpmlfjogkaaGreatDoor.FI
open Go Go.Ev Go.Proofs Go.Proofs.YtkglmpmlfjogkaaGreatDoor Y1 Y2 Y9 Y16 YZ P1 P2 YM YS YF E1 E2 E3 E5 E7 E9 EA Q1 Q4 Q8 Q9 QX QU F1 F2 FA FB FC FD FE FF FG
abbrev bigS (ts:TS):Prop:=∀ x,x∈ts.sorts→x.1.size≤4611686018427387904
theorem fitsL {ts:TS} (hs:bigS ts) (m:Md) (s:Int) (env:List (ByteArray×Int)):qi Tryz.prog 12 [eTS ts,eMd m,aI s,lPm env] (aB (fitB ts m s env (uW ts))):=qf1 ts m s env (uW ts) fun hf=>by
 obtain ⟨ok,wp,wf⟩:=KT hf hs;simp only [zQ,Bool.and_eq_true,List.all_eq_true] at hf;exact qfV ts ok wp wf (fun p hp=>by rw [Jq];have:=vj (hf.2.2.1 p hp).2;omega) (fun f hf'=>by rw [Jq];have:=vj (hf.2.2.2 f hf');omega)
structure FitP (ts:TS) (m:Md) (s:Nat) (env:List (ByteArray×Int)):Prop where
 ma:OkMa ⟨ts,m⟩ m.states.length
 p:OkP ⟨ts,m⟩ m.states.length ⟨s,env⟩
 el:env.length≤8
 st:m.states.length≤4
theorem fit_p {ts:TS} (hs:bigS ts) {m:Md} {s:Int} {env:List (ByteArray×Int)} (h:fitB ts m s env (uW ts)=true):∃ k:Nat,s=k∧FitP ts m k env:=by
 simp only [fitB,Bool.and_eq_true,decide_eq_true_eq,List.all_eq_true] at h;obtain ⟨h1,h2,h3,h4,h5,h6,h7,h8⟩:=h;obtain ⟨k,rfl⟩:=Int.eq_ofNat_of_zero_le h5;have hv:=pm h3;have hsc:=hv.sc;simp only [je,Bool.and_eq_true,decide_eq_true_eq,List.all_eq_true] at hsc;have:=hv.ns;refine ⟨k,rfl,qc8 (KT h1 hs).1 hv,⟨by show k<m.states.length;omega,fun e he=>h8 e he⟩,h7,by omega⟩
theorem wf1 {op:Int} {f:Nd} (hw:WfN f) (h:shp op 1=some [kd f.op]) (h2:op≠2) (nm:ByteArray):WfN (.mk op nm 0 [f] 0) := .mk _ h (fun e=>absurd e h2) fun k hk=>by
 have:k=f:=by simpa [Nd.kids] using hk
 subst this;exact hw
theorem wf2 {op:Int} {f g:Nd} (hw:WfN f) (hg:WfN g) (h:shp op 2=some [kd f.op,kd g.op]) (h2:op≠2) (nm:ByteArray):WfN (.mk op nm 0 [f,g] 0) := .mk _ h (fun e=>absurd e h2) fun k hk=>by
 have:k=f∨k=g:=by simpa [Nd.kids] using hk
 rcases this with rfl | rfl
 ·exact hw
 ·exact hg
theorem dn1 (op:Int) (nm:ByteArray) (f:Nd):dN (.mk op nm 0 [f] 0)=dN f+1:=by simp [dN,dNs]
theorem dn2 (op:Int) (nm:ByteArray) (f g:Nd):dN (.mk op nm 0 [f,g] 0)=max (dN f) (dN g)+1:=by simp [dN,dNs]
theorem UM {m:Md} {n:Nd} (h:smB m n=true):zq n=true:=by
 simp only [smB,u3,Bool.and_eq_true] at h;exact h.1.1
theorem wkS (m:Md) (n:Nd):WKs [eMd m,eNd n] [eMd m,eNd n] := .cons (.hf (jD m)) (.cons (.hf (qB n)) .nil)
theorem wk1 (n:Nd):WKs [eNd n] [eNd n] := .cons (.hf (qB n)) .nil
theorem wk6 (x:Mo) (p:Pl) (a b:Nd):WKs [eTS x.ts,eMd x.m,aI p.st,lPm p.env,eNd a,eNd b] [eTS x.ts,eMd x.m,aI p.st,lPm p.env,eNd a,eNd b] := .cons (.hf (ze _)) (.cons (.hf (jD _)) (.cons (.hf (HF.sc _)) (.cons (.hf (yV _)) (.cons (.hf (qB _)) (.cons (.hf (qB _)) .nil)))))
structure OkF (F:Nat) (n:Nd):Prop where
 w:WfN n
 d:dN n≤F
 k:kd n.op=102
theorem uo {ts:TS} {m:Md} {k:Nat} {env:List (ByteArray×Int)} (F:FitP ts m k env) {a b:Nd} (ha:OkF 100 a) (hb:OkF 100 b) (e:(den ⟨ts,m⟩ a).F ⟨k,env⟩=(den ⟨ts,m⟩ b).F ⟨k,env⟩):qi Tryz.prog 29 [eTS ts,eMd m,aI k,lPm env,eNd a,eNd b] (aB true):=by
 have h:=qfX ⟨ts,m⟩ _ F.ma ⟨k,env⟩ F.p a b ha.w hb.w (by have:=ha.d;have:=F.el;show _+_≤_;simp only;omega) (by have:=hb.d;have:=F.el;show _+_≤_;simp only;omega);rw [e] at h;have hr:∀ q:Bool×Int,samB q q=true:=fun q=>by simp [samB]
 rw [hr] at h;exact h
theorem okf1 {N:Nat} {op:Int} {f:Nd} (hf:OkF N f) (h:shp op 1=some [102]) (hk:kd op=102) (h2:op≠2):OkF (N+1) (nk op [f]):=⟨wf1 hf.w (by rw [hf.k];exact h) h2 _,by rw [dn1];have:=hf.d;omega,hk⟩
theorem okf2 {N:Nat} {op:Int} {f g:Nd} (hf:OkF N f) (hg:OkF N g) (h:shp op 2=some [102,102]) (hk:kd op=102) (h2:op≠2):OkF (N+1) (nk op [f,g]):=⟨wf2 hf.w hg.w (by rw [hf.k,hg.k];exact h) h2 _,by rw [dn2];have:=hf.d;have:=hg.d;omega,hk⟩
theorem yG {N M:Nat} {n:Nd} (h:OkF N n) (hl:N≤M):OkF M n:=⟨h.w,by have:=h.d;omega,h.k⟩
theorem qf4 {f g d:Nd} {x:ByteArray} (h1:zq f=true) (h2:zq g=true) (h3:zq (nb 45 x d f)=true) (h4:kd g.op=102):OkF 24 f∧OkF 24 g∧(OkF 25 (nk 34 [d])∧OkF 25 (nk 35 [d]))∧(OkF 24 (nb 45 x d f)∧OkF 100 (nb 46 x d (nk 40 [f]))):=by
 have w3:=jI h3;have hsh:some [101,102]=some [kd d.op,kd f.op]:=w3.shape;simp only [Option.some.injEq,List.cons.injEq,and_true] at hsh;obtain ⟨kd1,kd2⟩:=hsh;have wd:WfN d:=w3.kid (by simp [Nd.kids]);have of:OkF 24 f:=⟨jI h1,vj h1,kd2.symm⟩;have dd:dN d≤24:=by
  have:=vj h3;rw [dn2] at this;omega
 exact ⟨of,⟨jI h2,vj h2,h4⟩,⟨⟨wf1 wd (by rw [←kd1];decide) (by decide) _,by rw [dn1];omega,rfl⟩,⟨wf1 wd (by rw [←kd1];decide) (by decide) _,by rw [dn1];omega,rfl⟩⟩,⟨w3,vj h3,rfl⟩,
  ⟨wf2 wd (wf1 of.w (by rw [←kd2];decide) (by decide) _) (by rw [←kd1];rfl) (by decide) _,by rw [dn2,dn1];have:=of.d;omega,rfl⟩⟩
theorem qf5 (ts:TS) (hs:bigS ts) (m:Md) (s:Int) (env:List (ByteArray×Int)) (f g d:Nd) (x:ByteArray):qi Tryz.prog 4 [eTS ts,eMd m,aI s,lPm env,eNd f,eNd g,eNd d,aS x] (aB true):=by
 have hfit:=fitsL hs m s env;refine qSQ Tryz.call4 Tryz.func4 rfl {} ?_;simp [go_sem];refine qc.pure qf3 .nil ?_;simp [go_sem];refine qd.intro (by kernel_rfl) ?_;simp [go_sem];refine qc.pure hfit (.cons (.hf (ze ts)) (.cons (.hf (jD m)) (.cons (.hf (HF.sc _)) (.cons (.hf (yV env)) .nil)))) ?_;cases hF:fitB ts m s env (uW ts) with
 |false =>
  simp [go_sem];exact .hf _ (HF.sc _)
 |true =>
  obtain ⟨k,rfl,F⟩:=fit_p hs hF;have hsm:=fun n=>qf0 m F.ma.gsc (by have:=F.st;omega) n
  simp [go_sem];refine qc.pure (hsm f) (wkS m f) ?_;cases c1:smB m f with
  |false =>
   simp [go_sem];exact .hf _ (HF.sc _)
  |true =>
   simp [go_sem];refine qc.pure (hsm g) (wkS m g) ?_;cases c2:smB m g with
   |false =>
    simp [go_sem];exact .hf _ (HF.sc _)
   |true =>
    simp [go_sem];refine qc.pure (vY 45 x d f) (wB 45 x d f) ?_;simp [go_sem];refine qc.pure (hsm (nb 45 x d f)) (wkS m _) ?_;cases c3:smB m (nb 45 x d f) with
    |false =>
     simp [go_sem];exact .hf _ (HF.sc _)
    |true =>
     simp [go_sem];refine qc.pure (qfW g) (wk1 g) ?_;by_cases c4:kd g.op=102
     case neg =>
      rw [decide_eq_false c4];simp [go_sem];exact .hf _ (HF.sc _)
     case pos =>
      rw [decide_eq_true c4];obtain ⟨of,og,od,ob⟩:=qf4 (UM c1) (UM c2) (UM c3) c4;have onf:=okf1 (op:=40) of (by decide) (by decide) (by decide);have ong:=okf1 (op:=40) og (by decide) (by decide) (by decide);have oa:=okf2 (op:=41) of og (by decide) (by decide) (by decide);have h1:=uo F (yG (okf1 (op:=40) oa (by decide) (by decide) (by decide)) (by decide)) (yG (okf2 (op:=42) onf ong (by decide) (by decide) (by decide)) (by decide)) (dual1 _ _ _ _);have h2:=uo F (yG (okf1 (op:=40) ob.1 (by decide) (by decide) (by decide)) (by decide)) ob.2 (dual2 _ _ _ _ _);have h3:=uo F (yG (okf1 (op:=40) (okf1 (op:=48) of (by decide) (by decide) (by decide)) (by decide) (by decide) (by decide)) (by decide)) (yG (okf1 (op:=49) onf (by decide) (by decide) (by decide)) (by decide)) (dual3 _ _ _);have h4:=uo F (yG (okf1 (op:=40) od.1 (by decide) (by decide) (by decide)) (by decide)) (yG od.2 (by decide)) (dual4 _ _ _);have h5:=uo F (yG (okf2 (op:=43) of og (by decide) (by decide) (by decide)) (by decide)) (yG (okf2 (op:=42) onf (yG og (by decide)) (by decide) (by decide) (by decide)) (by decide)) (dual5 _ _ _ _);have h6:=uo F (yG (okf1 (op:=40) (okf2 (op:=44) of og (by decide) (by decide) (by decide)) (by decide) (by decide) (by decide)) (by decide)) (yG (okf2 (op:=44) (yG of (by decide)) ong (by decide) (by decide) (by decide)) (by decide)) (dual6 _ _ _ _);have h7:=uo F (yG (okf1 (op:=40) (okf1 (op:=50) of (by decide) (by decide) (by decide)) (by decide) (by decide) (by decide)) (by decide)) (yG (okf1 (op:=50) onf (by decide) (by decide) (by decide)) (by decide)) (dual7 _ _ _);have h8:=uo F (yG (okf1 (op:=40) onf (by decide) (by decide) (by decide)) (by decide)) (yG of (by decide)) (dual8 _ _ _);simp [go_sem]
      first | refine qc.pure (qu 40 [f]) (wN 40 [f]) ?_ | (refine qd.intro (by kernel_rfl) ?_;simp [go_sem];refine qc.pure (qu 40 [f]) (wN 40 [f]) ?_)
      simp [go_sem,qj]
      first | refine qc.pure (qu 41 [f,g]) (wN 41 [f,g]) ?_ | (refine qd.intro (by kernel_rfl) ?_;simp [go_sem];refine qc.pure (qu 41 [f,g]) (wN 41 [f,g]) ?_)
      simp [go_sem,qj]
      first | refine qc.pure (qu 40 [nk 41 [f,g]]) (wN 40 [nk 41 [f,g]]) ?_ | (refine qd.intro (by kernel_rfl) ?_;simp [go_sem];refine qc.pure (qu 40 [nk 41 [f,g]]) (wN 40 [nk 41 [f,g]]) ?_)
      simp [go_sem,qj]
      first | refine qc.pure (qu 40 [g]) (wN 40 [g]) ?_ | (refine qd.intro (by kernel_rfl) ?_;simp [go_sem];refine qc.pure (qu 40 [g]) (wN 40 [g]) ?_)
      simp [go_sem,qj]
      first | refine qc.pure (qu 42 [nk 40 [f],nk 40 [g]]) (wN 42 [nk 40 [f],nk 40 [g]]) ?_ | (refine qd.intro (by kernel_rfl) ?_;simp [go_sem];refine qc.pure (qu 42 [nk 40 [f],nk 40 [g]]) (wN 42 [nk 40 [f],nk 40 [g]]) ?_)
      simp [go_sem,qj]
      first | refine qc.pure (h1) (wk6 ⟨ts,m⟩ ⟨k,env⟩ (nk 40 [nk 41 [f,g]]) (nk 42 [nk 40 [f],nk 40 [g]])) ?_ | (refine qd.intro (by kernel_rfl) ?_;simp [go_sem];refine qc.pure (h1) (wk6 ⟨ts,m⟩ ⟨k,env⟩ (nk 40 [nk 41 [f,g]]) (nk 42 [nk 40 [f],nk 40 [g]])) ?_)
      simp [go_sem,qj]
      first | refine qc.pure (vY 45 x (d) (f)) (wB 45 x (d) (f)) ?_ | (refine qd.intro (by kernel_rfl) ?_;simp [go_sem];refine qc.pure (vY 45 x (d) (f)) (wB 45 x (d) (f)) ?_)
      simp [go_sem,qj]
      first | refine qc.pure (qu 40 [nb 45 x d f]) (wN 40 [nb 45 x d f]) ?_ | (refine qd.intro (by kernel_rfl) ?_;simp [go_sem];refine qc.pure (qu 40 [nb 45 x d f]) (wN 40 [nb 45 x d f]) ?_)
      simp [go_sem,qj]
      first | refine qc.pure (vY 46 x (d) (nk 40 [f])) (wB 46 x (d) (nk 40 [f])) ?_ | (refine qd.intro (by kernel_rfl) ?_;simp [go_sem];refine qc.pure (vY 46 x (d) (nk 40 [f])) (wB 46 x (d) (nk 40 [f])) ?_)
      simp [go_sem,qj]
      first | refine qc.pure (h2) (wk6 ⟨ts,m⟩ ⟨k,env⟩ (nk 40 [nb 45 x d f]) (nb 46 x d (nk 40 [f]))) ?_ | (refine qd.intro (by kernel_rfl) ?_;simp [go_sem];refine qc.pure (h2) (wk6 ⟨ts,m⟩ ⟨k,env⟩ (nk 40 [nb 45 x d f]) (nb 46 x d (nk 40 [f]))) ?_)
      simp [go_sem,qj]
      first | refine qc.pure (qu 48 [f]) (wN 48 [f]) ?_ | (refine qd.intro (by kernel_rfl) ?_;simp [go_sem];refine qc.pure (qu 48 [f]) (wN 48 [f]) ?_)
      simp [go_sem,qj]
      first | refine qc.pure (qu 40 [nk 48 [f]]) (wN 40 [nk 48 [f]]) ?_ | (refine qd.intro (by kernel_rfl) ?_;simp [go_sem];refine qc.pure (qu 40 [nk 48 [f]]) (wN 40 [nk 48 [f]]) ?_)
      simp [go_sem,qj]
      first | refine qc.pure (qu 49 [nk 40 [f]]) (wN 49 [nk 40 [f]]) ?_ | (refine qd.intro (by kernel_rfl) ?_;simp [go_sem];refine qc.pure (qu 49 [nk 40 [f]]) (wN 49 [nk 40 [f]]) ?_)
      simp [go_sem,qj]
      first | refine qc.pure (h3) (wk6 ⟨ts,m⟩ ⟨k,env⟩ (nk 40 [nk 48 [f]]) (nk 49 [nk 40 [f]])) ?_ | (refine qd.intro (by kernel_rfl) ?_;simp [go_sem];refine qc.pure (h3) (wk6 ⟨ts,m⟩ ⟨k,env⟩ (nk 40 [nk 48 [f]]) (nk 49 [nk 40 [f]])) ?_)
      simp [go_sem,qj]
      first | refine qc.pure (qu 34 [d]) (wN 34 [d]) ?_ | (refine qd.intro (by kernel_rfl) ?_;simp [go_sem];refine qc.pure (qu 34 [d]) (wN 34 [d]) ?_)
      simp [go_sem,qj]
      first | refine qc.pure (qu 40 [nk 34 [d]]) (wN 40 [nk 34 [d]]) ?_ | (refine qd.intro (by kernel_rfl) ?_;simp [go_sem];refine qc.pure (qu 40 [nk 34 [d]]) (wN 40 [nk 34 [d]]) ?_)
      simp [go_sem,qj]
      first | refine qc.pure (qu 35 [d]) (wN 35 [d]) ?_ | (refine qd.intro (by kernel_rfl) ?_;simp [go_sem];refine qc.pure (qu 35 [d]) (wN 35 [d]) ?_)
      simp [go_sem,qj]
      first | refine qc.pure (h4) (wk6 ⟨ts,m⟩ ⟨k,env⟩ (nk 40 [nk 34 [d]]) (nk 35 [d])) ?_ | (refine qd.intro (by kernel_rfl) ?_;simp [go_sem];refine qc.pure (h4) (wk6 ⟨ts,m⟩ ⟨k,env⟩ (nk 40 [nk 34 [d]]) (nk 35 [d])) ?_)
      simp [go_sem,qj]
      first | refine qc.pure (qu 43 [f,g]) (wN 43 [f,g]) ?_ | (refine qd.intro (by kernel_rfl) ?_;simp [go_sem];refine qc.pure (qu 43 [f,g]) (wN 43 [f,g]) ?_)
      simp [go_sem,qj]
      first | refine qc.pure (qu 42 [nk 40 [f],g]) (wN 42 [nk 40 [f],g]) ?_ | (refine qd.intro (by kernel_rfl) ?_;simp [go_sem];refine qc.pure (qu 42 [nk 40 [f],g]) (wN 42 [nk 40 [f],g]) ?_)
      simp [go_sem,qj]
      first | refine qc.pure (h5) (wk6 ⟨ts,m⟩ ⟨k,env⟩ (nk 43 [f,g]) (nk 42 [nk 40 [f],g])) ?_ | (refine qd.intro (by kernel_rfl) ?_;simp [go_sem];refine qc.pure (h5) (wk6 ⟨ts,m⟩ ⟨k,env⟩ (nk 43 [f,g]) (nk 42 [nk 40 [f],g])) ?_)
      simp [go_sem,qj]
      first | refine qc.pure (qu 44 [f,g]) (wN 44 [f,g]) ?_ | (refine qd.intro (by kernel_rfl) ?_;simp [go_sem];refine qc.pure (qu 44 [f,g]) (wN 44 [f,g]) ?_)
      simp [go_sem,qj]
      first | refine qc.pure (qu 40 [nk 44 [f,g]]) (wN 40 [nk 44 [f,g]]) ?_ | (refine qd.intro (by kernel_rfl) ?_;simp [go_sem];refine qc.pure (qu 40 [nk 44 [f,g]]) (wN 40 [nk 44 [f,g]]) ?_)
      simp [go_sem,qj]
      first | refine qc.pure (qu 40 [g]) (wN 40 [g]) ?_ | (refine qd.intro (by kernel_rfl) ?_;simp [go_sem];refine qc.pure (qu 40 [g]) (wN 40 [g]) ?_)
      simp [go_sem,qj]
      first | refine qc.pure (qu 44 [f,nk 40 [g]]) (wN 44 [f,nk 40 [g]]) ?_ | (refine qd.intro (by kernel_rfl) ?_;simp [go_sem];refine qc.pure (qu 44 [f,nk 40 [g]]) (wN 44 [f,nk 40 [g]]) ?_)
      simp [go_sem,qj]
      first | refine qc.pure (h6) (wk6 ⟨ts,m⟩ ⟨k,env⟩ (nk 40 [nk 44 [f,g]]) (nk 44 [f,nk 40 [g]])) ?_ | (refine qd.intro (by kernel_rfl) ?_;simp [go_sem];refine qc.pure (h6) (wk6 ⟨ts,m⟩ ⟨k,env⟩ (nk 40 [nk 44 [f,g]]) (nk 44 [f,nk 40 [g]])) ?_)
      simp [go_sem,qj]
      first | refine qc.pure (qu 50 [f]) (wN 50 [f]) ?_ | (refine qd.intro (by kernel_rfl) ?_;simp [go_sem];refine qc.pure (qu 50 [f]) (wN 50 [f]) ?_)
      simp [go_sem,qj]
      first | refine qc.pure (qu 40 [nk 50 [f]]) (wN 40 [nk 50 [f]]) ?_ | (refine qd.intro (by kernel_rfl) ?_;simp [go_sem];refine qc.pure (qu 40 [nk 50 [f]]) (wN 40 [nk 50 [f]]) ?_)
      simp [go_sem,qj]
      first | refine qc.pure (qu 50 [nk 40 [f]]) (wN 50 [nk 40 [f]]) ?_ | (refine qd.intro (by kernel_rfl) ?_;simp [go_sem];refine qc.pure (qu 50 [nk 40 [f]]) (wN 50 [nk 40 [f]]) ?_)
      simp [go_sem,qj]
      first | refine qc.pure (h7) (wk6 ⟨ts,m⟩ ⟨k,env⟩ (nk 40 [nk 50 [f]]) (nk 50 [nk 40 [f]])) ?_ | (refine qd.intro (by kernel_rfl) ?_;simp [go_sem];refine qc.pure (h7) (wk6 ⟨ts,m⟩ ⟨k,env⟩ (nk 40 [nk 50 [f]]) (nk 50 [nk 40 [f]])) ?_)
      simp [go_sem,qj]
      first | refine qc.pure (qu 40 [nk 40 [f]]) (wN 40 [nk 40 [f]]) ?_ | (refine qd.intro (by kernel_rfl) ?_;simp [go_sem];refine qc.pure (qu 40 [nk 40 [f]]) (wN 40 [nk 40 [f]]) ?_)
      simp [go_sem,qj]
      first | refine qc.pure (h8) (wk6 ⟨ts,m⟩ ⟨k,env⟩ (nk 40 [nk 40 [f]]) (f)) ?_ | (refine qd.intro (by kernel_rfl) ?_;simp [go_sem];refine qc.pure (h8) (wk6 ⟨ts,m⟩ ⟨k,env⟩ (nk 40 [nk 40 [f]]) (f)) ?_)
      simp [go_sem,qj];exact .hf _ (HF.sc _)
end Go.Proofs.YtkglmpmlfjogkaaGreatDoor.FI


namespace Go.Proofs.YtkglmpmlfjogkaaGreatDoor.DL
open Go Go.Ev Go.EvW Go.Proofs Go.Proofs.YtkglmpmlfjogkaaGreatDoor Go.RowKit Go.ChangeShapes Go.WideShapes
theorem own:ownKnob Tryz.prog.godebug=none:=by kernel_rfl
theorem laid:laidOutB Tryz.prog=true:=by kernel_rfl
abbrev tabL : List (String × DataW Unit) := [("math/bits.deBruijn32tab", Rows.laid_math_bits_deBruijn32tab), ("math/bits.deBruijn64tab", Rows.laid_math_bits_deBruijn64tab), ("internal/strconv.uint64pow10", Rows.laid_internal_strconv_uint64pow10)]
def pows:List Int:=[1,10,100,1000,10000,100000,1000000,10000000,100000000,1000000000,10000000000,100000000000,1000000000000,10000000000000,100000000000000,1000000000000000,10000000000000000,100000000000000000,1000000000000000000,10000000000000000000]
theorem gPow : Tryz.prog.globalNamed "internal/strconv.uint64pow10" = some 0 := by kernel_rfl
theorem tPow:(Tryz.prog.globals[0]?).map (·.type)=some 330:=by kernel_rfl
theorem uPow:Tryz.prog.underlying 330=some (.array 20 271):=by kernel_rfl
theorem uU64:Tryz.prog.underlying 271=some (.int .u64):=by kernel_rfl
theorem qf6 {W:World} (h:laidMetH Tryz.prog tabL W):uq (·<W.heap.size) W.heap:=by
  rw [MakeChecks.laidMetH_plain _ _ _ (by kernel_rfl)] at h;obtain ⟨ps,hl,_⟩:=h
  obtain ⟨g, t, cs, fuel, p, hg, ht, hv, hd⟩ := kc hl ("internal/strconv.uint64pow10", Rows.laid_internal_strconv_uint64pow10) (by simp)
  obtain rfl:=Option.some.inj (gPow.symm.trans hg);obtain rfl:=Option.some.inj (tPow.symm.trans ht);have hc:cs.toList=pows.map fun i => .int .u64 i:=qdN uPow uU64 (by kernel_rfl) (by kernel_rfl) (ns:=pows) hd
  obtain ⟨e,fr,ho⟩:=qdO gPow hv;intro x hx;have hx:x∈[(0,pows.map fun i=>Value.int .u64 i)]:=hx;rw [qK] at hx;subst hx;refine ⟨(Array.getElem?_eq_some_iff.1 ho).1,e,fr,?_⟩;show W.heap[0]?=_;rw [ho];have:cs=(pows.map fun i=>Value.int .u64 i).toArray:=by rw [←hc]
  rw [this]
theorem qf7 (os:Os) (args:Array Value):laidMetH Tryz.prog tabL ((World.doorLaid Tryz.prog 4000 os).forCall (fun _ _=>0) ⟨#[],args,[]⟩).memory:=
 laidMetH_of_parts3 (fuel:=8) (laidMet_of_run' 8 (by kernel_rfl) (by kernel_rfl)) (by kernel_rfl) (by kernel_rfl)
end Go.Proofs.YtkglmpmlfjogkaaGreatDoor.DL


namespace Go.Proofs.YtkglmpmlfjogkaaGreatDoor.DM
open Go Go.Ev Go.EvW Go.Proofs Go.Proofs.YtkglmpmlfjogkaaGreatDoor Go.Proofs.YtkglmpmlfjogkaaGreatDoor.YF Go.Proofs.YtkglmpmlfjogkaaGreatDoor.Y1 Go.Proofs.YtkglmpmlfjogkaaGreatDoor.E3 Go.Proofs.YtkglmpmlfjogkaaGreatDoor.DT
instance:Inhabited Rl:=⟨⟨0,[]⟩⟩
instance:Inhabited Sc:=⟨⟨[],0⟩⟩
instance:Inhabited Md:=⟨⟨default,[],0⟩⟩
theorem qf8:Tryz.prog.underlying 77=some (.slice 42):=by kernel_rfl
theorem qf9:Tryz.prog.underlying 31=some (.slice 77):=by kernel_rfl
theorem pq:Tryz.prog.underlying 34=some (.slice 68):=by kernel_rfl
theorem shRel (N:Nat):ShU Tryz.prog N 42 cRel (fun _=>True):=
 ((ShU.struct (fs:=[(3,0),(28,1)]) (by kernel_rfl) (.cons' (o':=1) (by kernel_rfl) (vn N) (.cons' (o':=2) (by kernel_rfl) (Ur N) (.nil 2))) (by kernel_rfl)).map
  (fun x=>(⟨x.1,x.2.1⟩:Rl)) (fun _=>rfl) (fun x h=>trivial)).le (by omega)
theorem qgA (N:Nat):ShU Tryz.prog N 77 (fun b:List Rl=>[.lst false (b.map cRel)]) (fun _=>True):=
 ((ShU.slice qf8 (shRel N) (fun _ _=>by kernel_rfl) (Nat.lt_of_lt_of_eq (show 0<2 by omega) (by kernel_rfl)) (by kernel_rfl)).le (by omega)).map (fun l=>l) (fun _=>rfl) fun _ _=>trivial
theorem qgB (N:Nat):ShU Tryz.prog N 31 (fun b:List (List Rl)=>[lSt b]) (fun _=>True):=
 ((ShU.slice qf9 (qgA N) (fun _ _=>by kernel_rfl) (Nat.lt_of_lt_of_eq (show 0<1 by omega) (by kernel_rfl)) (by kernel_rfl)).le (by omega)).map (fun l=>l) (fun _=>rfl) fun _ _=>trivial
theorem qgC (N:Nat):ShU Tryz.prog N 30 (fun s:Sc=>[lI s.atoms,aI s.steps]) (fun _=>True):=
 ((ShU.struct (fs:=[(28,0),(3,1)]) (by kernel_rfl) (.cons' (o':=1) (by kernel_rfl) (Ur N) (.cons' (o':=2) (by kernel_rfl) (vn N) (.nil 2))) (by kernel_rfl)).map
  (fun x=>(⟨x.1,x.2.1⟩:Sc)) (fun _=>rfl) (fun x h=>trivial)).le (by omega)
theorem qgD (N:Nat):ShU Tryz.prog N 33 cMd (fun _=>True):=
 ((ShU.struct (fs:=[(30,0),(31,2),(3,3)]) (by kernel_rfl) (.cons' (o':=2) (by kernel_rfl) (qgC N) (.cons' (o':=3) (by kernel_rfl) (qgB N) (.cons' (o':=4) (by kernel_rfl) (vn N) (.nil 4)))) (by kernel_rfl)).map
  (fun x=>(⟨x.1,x.2.1,x.2.2.1⟩:Md)) (fun _=>rfl) (fun x h=>trivial)).le (by omega)
theorem qgE:z8 Tryz.prog 33 eMd (fun _=>True):=z8.struct (by kernel_rfl) qgD
theorem aInt:z8 Tryz.prog 3 (fun n:Int=>aI n) okI:=z8.int kf vn
theorem aStr:z8 Tryz.prog 9 (fun s:ByteArray=>aS s) (fun _=>True):=z8.string kh fun N=>(un N).map (fun s=>s) (fun _=>rfl) fun _ _=>trivial
theorem qgF (N:Nat):ShU Tryz.prog N 68 cPm (fun _=>True):=
 ((ShU.struct (fs:=[(9,0),(3,1)]) (by kernel_rfl) (.cons' (o':=1) (by kernel_rfl) (un N) (.cons' (o':=2) (by kernel_rfl) (vn N) (.nil 2))) (by kernel_rfl)).map
  (fun x=>((x.1,x.2.1):ByteArray×Int)) (fun _=>rfl) (fun x h=>trivial)).le (by omega)
theorem qgG (N:Nat):ShU Tryz.prog N 34 (fun l:List (ByteArray×Int)=>[lPm l]) (fun l=>l.length≤140737488351232):=
 ((ShU.slice pq (qgF N) (fun _ _=>by kernel_rfl) (Nat.lt_of_lt_of_eq (show 0<2 by omega) (by kernel_rfl)) (by kernel_rfl)).le (by omega)).map (fun l=>l) (fun _=>rfl) fun _ h=>h.1
theorem qgH:z8 Tryz.prog 34 lPm (fun l=>l.length≤140737488351232):=z8.slice pq qgG
end Go.Proofs.YtkglmpmlfjogkaaGreatDoor.DM

namespace Go.Proofs.YtkglmpmlfjogkaaGreatDoor.ZEvalDualities
open Go Go.Ev Go.EvW Go.Proofs Go.Proofs.YtkglmpmlfjogkaaGreatDoor Go.Proofs.YtkglmpmlfjogkaaGreatDoor.DL Go.Proofs.YtkglmpmlfjogkaaGreatDoor.P1 Go.Proofs.YtkglmpmlfjogkaaGreatDoor.Y1 Go.Proofs.YtkglmpmlfjogkaaGreatDoor.YF Go.Proofs.YtkglmpmlfjogkaaGreatDoor.Y9 Go.Proofs.YtkglmpmlfjogkaaGreatDoor.E3 Go.RowKit Go.ChangeShapes Go.WideShapes
theorem law (x0:TS) (x1:Md) (x2:Int) (x3:List (ByteArray×Int)) (x4:Nd) (x5:Nd) (x6:Nd) (x7:ByteArray) (h0:DT.okTA x0) (h1:True) (h2:DT.okI x2) (h3:x3.length≤140737488351232) (h4:True) (h5:True) (h6:True) (h7:True):qi Tryz.prog 4 [eTS x0,eMd x1,aI x2,lPm x3,eNd x4,eNd x5,eNd x6,aS x7] (aB true):=
 FI.qf5 x0 (fun x hx=>zj (h0.so x hx) (Nat.le_of_ble_eq_true rfl)) x1 x2 x3 x4 x5 x6 x7
set_option maxRecDepth 100000 in
theorem lifted (os:Os) (started:os.Started) (H:Type) (enc:TypeId×Value→H) :
  ReturnsInHanded {} Tryz.checked os 4 .any (fun w args=>(Rows.evalDualitiesSpec.pre enc Tryz.prog Tryz.f4 [] false w args∧laidMetH Tryz.prog tabL w)∧sizedMet enc Tryz.prog Tryz.f4 (OpenSpec.ofChange Rows.evalDualitiesSpec) false w args) (Rows.evalDualitiesSpec.post enc Tryz.prog Tryz.f4 false true false false):=by
 refine returnsInHanded_of_change_and (C:=Tryz.checked) (X:=fun w _=>laidMetH Tryz.prog tabL w) (fun _ _ _ hh h=>h.of_heap hh) own started (by kernel_rfl) Tryz.func4
  (ChangeSpec.witness_shaped (enc:=enc) (C:=Tryz.checked) (os:=os) (X:=fun w _=>laidMetH Tryz.prog tabL w) false (World.doorLaid Tryz.prog 4000 os) #[.agg #[.slice none 0 0,.slice none 0 0,.slice none 0 0,.slice none 0 0],.agg #[.slice none 0 0,.int .i64 0,.slice none 0 0,.int .i64 0],.int .i64 0,.slice none 0 0,.agg #[.int .i64 0,.string ⟨#[]⟩,.int .i64 0,.slice none 0 0,.int .i64 0],.agg #[.int .i64 0,.string ⟨#[]⟩,.int .i64 0,.slice none 0 0,.int .i64 0],.agg #[.int .i64 0,.string ⟨#[]⟩,.int .i64 0,.slice none 0 0,.int .i64 0],.string ⟨#[]⟩] 8 rfl (World.shaped_of_RefB (by kernel_rfl) (by kernel_rfl)) (by kernel_rfl) (by kernel_rfl) (by kernel_rfl) (qf7 os _)) ?_
 intro W base args ds gs before hval hW _ hwt hL _;exact qdM (ts:=[27,33,3,34,37,37,37,9]) (tb:=4) (by kernel_rfl) (.cons DT.aSpec (.cons DM.qgE (.cons DM.aInt (.cons DM.qgH (.cons DT.Us (.cons DT.Us (.cons DT.Us (.cons DM.aStr .nil)))))))) rfl
  (fun H ds h=>by match ds,h with | [_,_,_,_,_,_,_,_],h10=>rfl) (by kernel_rfl) DT.kg laid (by kernel_rfl) (fun a h=>law a.1 a.2.1 a.2.2.1 a.2.2.2.1 a.2.2.2.2.1 a.2.2.2.2.2.1 a.2.2.2.2.2.2.1 a.2.2.2.2.2.2.2.1 h.1 h.2.1 h.2.2.1 h.2.2.2.1 h.2.2.2.2.1 h.2.2.2.2.2.1 h.2.2.2.2.2.2.1 h.2.2.2.2.2.2.2.1) H enc W base args ds gs before hval hW (by
   obtain ⟨p,q,hA,hV,_⟩:=hW;obtain ⟨rfl,_⟩:=trodVars_none hV;have hwt':(DataW.weightsEach Tryz.prog ([27,33,3,34,37,37,37,9]++[]) (ds++[])).all (·≤reachBytes)=true:=hwt;rw [zc,zc] at hwt';exact hwt') (qf6 hL)
end Go.Proofs.YtkglmpmlfjogkaaGreatDoor.ZEvalDualities

namespace Go.Proofs.YtkglmpmlfjogkaaGreatDoor.ZF
open Go Go.Ev Go.EvW Go.Proofs Go.Proofs.YtkglmpmlfjogkaaGreatDoor Go.RowKit Go.ChangeShapes Go.WideShapes
theorem c0:(Rows.evalDualitiesRow.wf (OpenSpec.ofChange Rows.evalDualitiesSpec))=true:=by kernel_rfl
theorem c1:(laidOutB Tryz.checked.prog)=true:=by kernel_rfl
theorem c2:(mapsRowed Tryz.checked.prog)=true:=by kernel_rfl
theorem c3:(Tryz.f4.params.all (Tryz.checked.prog.readableRec ·))=true:=by kernel_rfl
theorem c4:(namedTie Tryz.checked.prog Rows.evalDualitiesRow.named Rows.evalDualitiesSpec.vars)=true:=by kernel_rfl
theorem c5:((Rows.evalDualitiesRow.stops == []))=true:=by kernel_rfl
theorem c6:((Tryz.checked.prog.stops == []))=true:=by kernel_rfl
theorem c7:((Rows.evalDualitiesRow.knobs == []))=true:=by kernel_rfl
theorem c8:((Tryz.checked.prog.stopKnobs == []))=true:=by kernel_rfl
theorem c9:((Rows.evalDualitiesRow.inPlace == Tryz.checked.prog.inPlace 4))=true:=by kernel_rfl
theorem c10:((Rows.evalDualitiesRow.unfollowed == Tryz.checked.prog.unfollowed 4))=true:=by kernel_rfl
theorem c11:((Rows.evalDualitiesRow.recurses == Tryz.checked.prog.recurses 4))=true:=by kernel_rfl
theorem c12:((Rows.evalDualitiesRow.named == Tryz.checked.prog.varsNamed 4))=true:=by kernel_rfl
theorem c13:((Rows.evalDualitiesRow.maps == (Tryz.f4.params.toList++Rows.evalDualitiesSpec.plain.varTypes Tryz.checked.prog).any (Tryz.checked.prog.mapsRec ·)))=true:=by kernel_rfl
theorem c14:((Rows.evalDualitiesRow.ifaces == (Tryz.f4.params.toList++Rows.evalDualitiesSpec.plain.varTypes Tryz.checked.prog).any (Tryz.checked.prog.ifacesRec ·)))=true:=by kernel_rfl
theorem c15:((Rows.evalDualitiesRow.mapsOut == Tryz.checked.prog.mapsAmong Tryz.f4.resultTypes.toList))=true:=by kernel_rfl
theorem c16:((Rows.evalDualitiesRow.loops == (Tryz.f4.params.toList++Rows.evalDualitiesSpec.plain.varTypes Tryz.checked.prog).any (Tryz.checked.prog.loopsFrom ·)))=true:=by kernel_rfl
theorem c17:((Rows.evalDualitiesRow.wideKeys == (Tryz.f4.params.toList++Rows.evalDualitiesSpec.plain.varTypes Tryz.checked.prog++Tryz.f4.resultTypes.toList).any (Tryz.checked.prog.wideKeysFrom ·)))=true:=by kernel_rfl
theorem c18:(Rows.evalDualitiesSpec.vars.all (Tryz.checked.prog.varReadable ·))=true:=by kernel_rfl
theorem c19:(Tryz.f4.resultTypes.all (fun t=>Tryz.checked.prog.readableRec t&&decide (t<Tryz.checked.prog.types.size)))=true:=by kernel_rfl
theorem c20:((Rows.evalDualitiesRow.ifacesOut == Tryz.f4.resultTypes.toList.any (Tryz.checked.prog.ifacesRec ·)))=true:=by kernel_rfl
theorem c21:((Rows.evalDualitiesRow.loopsOut == Tryz.f4.resultTypes.toList.any (Tryz.checked.prog.loopsFrom ·)))=true:=by kernel_rfl
theorem c22:((Rows.evalDualitiesRow.plainKeys == Tryz.checked.prog.plainKeys))=true:=by kernel_rfl
theorem c23:(Rows.evalDualitiesRow.shortTexts.isNone)=true:=by kernel_rfl
theorem c24:(Tryz.checked.prog.stopsHeard)=true:=by kernel_rfl
theorem c25:(Tryz.checked.prog.mayEnter)=true:=by kernel_rfl
theorem c26:((Rows.evalDualitiesRow.lifted == Tryz.checked.prog.liftsFinal))=true:=by kernel_rfl
theorem c27:((Tryz.checked.prog.make == some Rows.evalDualitiesRow.make))=true:=by kernel_rfl
theorem c28:((Rows.evalDualitiesRow.kinds == (if Rows.evalDualitiesRow.domain.isEmpty then [] else Tryz.f4.params.toList.map fun t=>match Tryz.checked.prog.underlying t with | some (.int k)=>some k | _=>none)))=true:=by kernel_rfl
theorem c29:((Rows.evalDualitiesRow.pinned == Rows.evalDualitiesRow.pinnedBy))=true:=by kernel_rfl
theorem c30:((Rows.evalDualitiesRow.veiled == (Tryz.f4.params.toList++Rows.evalDualitiesSpec.plain.varTypes Tryz.checked.prog++Tryz.f4.resultTypes.toList).any (Tryz.checked.prog.veiledRec ·)))=true:=by kernel_rfl
theorem c31:(Rows.evalDualitiesRow.veiledFits Tryz.checked.prog Tryz.f4.params.toList (Tryz.f4.params.toList++Rows.evalDualitiesSpec.plain.varTypes Tryz.checked.prog++Tryz.f4.resultTypes.toList))=true:=by kernel_rfl
end Go.Proofs.YtkglmpmlfjogkaaGreatDoor.ZF

namespace Go.Proofs.YtkglmpmlfjogkaaGreatDoor.ZEvalDualities
open Go Go.Ev Go.EvW Go.Proofs Go.Proofs.YtkglmpmlfjogkaaGreatDoor Go.Proofs.YtkglmpmlfjogkaaGreatDoor.DL Go.Proofs.YtkglmpmlfjogkaaGreatDoor.P1 Go.Proofs.YtkglmpmlfjogkaaGreatDoor.Y1 Go.Proofs.YtkglmpmlfjogkaaGreatDoor.YF Go.Proofs.YtkglmpmlfjogkaaGreatDoor.Y9 Go.Proofs.YtkglmpmlfjogkaaGreatDoor.E3 Go.RowKit Go.ChangeShapes Go.WideShapes
theorem zn {a b:Bool} (ha:a=true) (hb:b=true):(a&&b)=true:=by rw [ha,hb];rfl
set_option maxRecDepth 100000 in
theorem closed:joinedFacts Tryz.checked.prog 4 Tryz.f4 Rows.evalDualitiesSpec Rows.evalDualitiesRow=true:=by
 unfold joinedFacts;exact zn (zn (zn (zn (zn (zn (zn (zn (zn (zn (zn (zn (zn (zn (zn (zn (zn (zn (zn (zn (zn (zn (zn (zn (zn (zn (zn (zn (zn (zn (zn ZF.c0 ZF.c1) ZF.c2) ZF.c3) ZF.c4) ZF.c5) ZF.c6) ZF.c7) ZF.c8) ZF.c9) ZF.c10) ZF.c11) ZF.c12) ZF.c13) ZF.c14) ZF.c15) ZF.c16) ZF.c17) ZF.c18) ZF.c19) ZF.c20) ZF.c21) ZF.c22) ZF.c23) ZF.c24) ZF.c25) ZF.c26) ZF.c27) ZF.c28) ZF.c29) ZF.c30) ZF.c31
theorem said:Rows.EvalDualitiesSaid:=
 OpenClaim.holds_of_wide 4 Tryz.f4 rfl rfl rfl rfl rfl rfl rfl ⟨rfl,rfl,rfl,rfl,rfl⟩ rfl rfl rfl rfl rfl (by kernel_rfl) Tryz.func4 closed
  (of_decide_eq_true (by kernel_rfl)) (by unfold Func.isWrapper;first | (rw [if_pos (by decide +kernel)];kernel_rfl) | (rw [if_neg (by decide +kernel)];exact ⟨rfl,rfl⟩))
  (fun os started H enc _=>lifted os started H enc)
end Go.Proofs.YtkglmpmlfjogkaaGreatDoor.ZEvalDualities
