/-
  Own library, part 8: an abstract reading of values and a calculus over it; contracts of functions; plain lemmas.
-/
import Derived.Test.YtkglmpmlfjogkaaGreatDoorRows
import Derived.LaidMore
import Derived.MakeChecks
import Derived.WalkKit
import Derived.JoinedCond
import Derived.Test.YtkglmpmlfjogkaaGreatDoorTie
import Derived.Test.YtkglmpmlfjogkaaGreatDoorCards
import Derived.SevenTiedAt
import Derived.Test.YtkglmpmlfjogkaaGreatDoorMg
set_option linter.unusedVariables false
set_option linter.unusedSimpArgs false
set_option maxRecDepth 100000
open Go.Proofs.Tryz renaming prog->qc
open List renaming getElem?_eq_some_iff->qk,mem_map->qq,getElem_mem->qw,getElem?_set_ne->qK,append_nil->zl,mem_cons_of_mem->zD,length_cons->zO,mem_cons_self->zW,take_of_length_le->zX,take_append_drop->vh,foldl_append->wK
open Go.IntKind renaming i64->ql
open Nat renaming le_refl->qs,le_trans->zz,le_of_ble_eq_true->jg
namespace Go.Proofs.YtkglmpmlfjogkaaGreatDoor
open Go Go.Ev Go.Proofs Tryz
namespace FJ
open Y1 Y9 E3
def NZ{α:Type}(q:XE α):Prop:=∀ e,q = .error e->e≠0
theorem zg{α:Type}(a:α):NZ (.ok a:XE α):=fun e h=>by cases h
theorem jE{α:Type}{e:Int}(h:e≠0):NZ (.error e:XE α):=fun e' h'=>by cases h';exact h
theorem zb{α β:Type}{q:XE α}{g:α->XE β}(h:NZ q)(k:∀ a,NZ (g a)):NZ (bX q g):=by
 cases q with
 |error e=>exact jE (h e rfl)
 |ok a=>exact k a
theorem YP{α β:Type}{g:α->XE β}:∀{l:List α},(∀ a,a∈l->NZ (g a))->NZ (mapX g l)
 | [],_=>zg _
 |a :: l,h=>zb (h a (by simp)) fun b=>zb (YP fun y hy=>h y (by simp[hy])) fun r=>zg _
theorem nK{g h:Nat->XE Bool}(hg:∀ s,NZ (g s))(hh:∀ s,NZ (h s)):∀(l:List Nat) (d q:Bool),NZ (untX g h l d q)
 | [],d,q=>zg _
 |s :: l,d,q=>zb (hg s) fun a=>zb (hh s) fun b=>nK hg hh l _ _
theorem ze{α:Type}{c:Prop} [Decidable c] {a b:XE α} (h1:NZ a) (h2:NZ b):NZ (if c then a else b):=by split<;>assumption
structure NZD (d:Den):Prop where
 E:∀ p,NZ (d.E p)
 N:∀ p,NZ (d.N p)
 F:∀ p,NZ (d.F p)
theorem qi0(x:Mo)(p:Pl)(nm:ByteArray):NZ (uY x p nm):=by
 unfold uY;split
 .exact zg _
 .unfold Zk
  split
  .exact jE (by decide)
  .exact zg _
  .exact jE (by decide)
theorem ZH{ds:List Den}(hk:∀ j,NZD (kD ds j))(p:Pl):NZ (zT ds p):=zb ((hk 0).E p) fun a=>zb ((hk 1).E p) fun b=>ze (zg _) (jE (by decide))
theorem W8{ds:List Den}(hk:∀ j,NZD (kD ds j))(p:Pl):NZ (binE ds p):=zb ((hk 0).E p) fun a=>ze (zg _) (jE (by decide))
theorem W9{ds:List Den}(hk:∀ j,NZD (kD ds j))(nm:ByteArray)(p:Pl):NZ (zY ds nm p):=zb ((hk 0).E p) fun a=>ze (YP fun y _=>zb ((hk 1).F _) fun b=>zg _) (jE (by decide))
theorem op_nz(x:Mo)(op:Int)(nm:ByteArray)(i:Int)(ds:List Den)(hk:∀ j,NZD (kD ds j))(hd:∀ d,d∈ds->NZD d):NZD (opD x op nm i ds):=by
 refine⟨fun p=>?_,fun p=>?_,fun p=>?_⟩
 .show NZ (opE x op nm i ds p)
  unfold opE;refine ze (qi0 x p nm) ?_;refine ze (zg _) ?_;refine ze (zg _) ?_;refine ze (zg _) ?_;refine ze ((hk 0).E _) ?_;refine ze (zb (ZH hk p) fun _=>zg _) ?_;refine ze (zb (ZH hk p) fun _=>zg _) ?_;refine ze (zb (ZH hk p) fun _=>zg _) ?_;refine ze (zb ((hk 0).E p) fun _=>zb ((hk 1).E p) fun _=>ze (zg _) (jE (by decide))) ?_;refine ze (zb ((hk 0).E p) fun _=>zb ((hk 1).E p) fun _=>ze (zg _) (jE (by decide))) ?_;refine ze (zb (W8 hk p) fun _=>zg _) ?_;refine ze (zb (W8 hk p) fun _=>zg _) ?_;refine ze (zb (W8 hk p) fun _=>zg _) ?_;refine ze (zb (ZH hk p) fun _=>zg _) ?_;refine ze (zb (W9 hk nm p) fun _=>zg _) ?_;exact jE (by decide)
 .show NZ (opN op i ds p)
  unfold opN;refine ze (zg _) ?_;refine ze (zb ((hk 0).E p) fun _=>zg _) ?_;refine ze (zb ((hk 0).N p) fun _=>zb ((hk 1).N p) fun _=>zg _) ?_;refine ze (zb ((hk 0).N p) fun _=>zb ((hk 1).N p) fun _=>zg _) ?_;exact jE (by decide)
 .show NZ (opF x op nm ds p)
  unfold opF;refine ze (zg _) ?_;refine ze (zg _) ?_;refine ze (zb (ZH hk p) fun _=>zg _) ?_;refine ze (zb (ZH hk p) fun _=>zg _) ?_;refine ze (zb ((hk 0).E p) fun _=>zg _) ?_;refine ze (zb ((hk 0).E p) fun _=>zg _) ?_;refine ze (zb ((hk 0).E p) fun _=>zg _) ?_;refine ze (zb ((hk 0).E p) fun _=>zg _) ?_;refine ze (zb ((hk 0).N p) fun _=>zb ((hk 1).N p) fun _=>zg _) ?_;refine ze (zb ((hk 0).N p) fun _=>zb ((hk 1).N p) fun _=>zg _) ?_;refine ze (zb ((hk 0).F p) fun _=>zg _) ?_;refine ze (zb ((hk 0).F p) fun _=>zb ((hk 1).F p) fun _=>zg _) ?_;refine ze (zb ((hk 0).F p) fun _=>zb ((hk 1).F p) fun _=>zg _) ?_;refine ze (zb ((hk 0).F p) fun _=>zb ((hk 1).F p) fun _=>zg _) ?_;refine ze (zb ((hk 0).F p) fun _=>zb ((hk 1).F p) fun _=>zg _) ?_;refine ze (zb (W9 hk nm p) fun _=>zg _) ?_;refine ze (zb (W9 hk nm p) fun _=>zg _) ?_;refine ze (zb (YP fun d hd'=>(hd d hd').E p) fun _=>jE (by decide)) ?_;refine ze (zb (YP fun s _=>(hk 0).F _) fun _=>zg _) ?_;refine ze (zb (YP fun s _=>(hk 0).F _) fun _=>zg _) ?_;refine ze ((hk 0).F _) ?_;refine ze (nK (fun s=>(hk 0).F _) (fun s=>(hk 1).F _) _ _ _) ?_;exact jE (by decide)
theorem qi1:NZD noD:=⟨fun _=>jE (by decide),fun _=>jE (by decide),fun _=>jE (by decide)⟩
theorem VH(x:Mo):∀(m:Nat) (n:Nd),szN n<=m->NZD (den x n)
 | 0,n,hm=>by obtain⟨op,nm,i,ks,p⟩:=n;simp[szN]at hm
 |m+1,n,hm=>by
  rw[Zl];have ih:∀ k,k∈n.kids->NZD (den x k):=fun k hk=>VH x m k (by have:=yj hk;omega)
  refine op_nz x _ _ _ _ (fun j=>?_) fun d hd=>?_
  .unfold kD
   by_cases hj:j<n.kids.length
   .have:(n.kids.map (den x)).getD j noD=den x n.kids[j]:=by simp[List.getD,hj]
    rw[this];exact ih _ (qw hj)
   .have:(n.kids.map (den x)).getD j noD=noD:=by simp[List.getD,hj]
    rw[this];exact qi1
  .obtain ⟨k,hk,rfl⟩:=qq.1 hd
   exact ih k hk
end FJ
namespace FK
open Y1 Y16 P1 P2 YF E3 E5 EA Q4 F1 F2 FB FC FD FE FF FG FI FJ E4 E8 EL
theorem eqS(r:Rl)(hl:r.ts.length<=4611686018427387904):qj qc 20 [eRel r,eRel r] (aB true):=by
 have h:=US r r hl;rw[decide_eq_true rfl]at h;exact h
theorem nL(r:Rl)(e:Int)(hl:r.ts.length<=4611686018427387904):qj qc 34 [eRel r,aI e,eRel r,aI e] (aB true):=by
 have hq:=eqS r hl;have wq:WKs [eRel r,eRel r] [eRel r,eRel r] := .cons (.hf (qR r)) (.cons (.hf (qR r)) .nil);refine qSQ call34 func34 rfl {} ?_;by_cases h:e=0
 .simp [go_sem,h]
  refine qe.pure hq wq ?_;simp[go_sem];exact .hf _ (HF.sc _)
 .simp [go_sem,h]
  exact .hf _ (HF.sc _)
def reV:XE Rl->Rl×Int
 | .ok r=>(r,0)
 | .error e=>(⟨0,[]⟩,e)
theorem qi2(q:XE Rl):outE q = .tup [eRel (reV q).1,aI (reV q).2]:=by cases q<;>rfl
structure OkG (F:Nat) (n:Nd):Prop where
 w:WfN n
 d:dN n<=F
theorem VI{ts:TS}{m:Md}{k:Nat}{env:List (ByteArray×Int)}(F:FitP ts m k env){a:Nd}(ha:OkG 100 a):qj qc 14 [eTS ts,eMd m,aI k,lPm env,eNd a] (.tup [eRel (reV ((den ⟨ts,m⟩ a).E ⟨k,env⟩)).1,aI (reV ((den ⟨ts,m⟩ a).E ⟨k,env⟩)).2]):=by
 have h:=pw ⟨ts,m⟩ _ a ha.w F.ma ⟨k,env⟩ F.p (by have:=ha.d;have:=F.el;show _+_<=_;simp only;omega);rw[qi2]at h;exact h
theorem ZI{ts:TS}{m:Md}{k:Nat}{env:List (ByteArray×Int)}(F:FitP ts m k env){a:Nd}(ha:OkG 100 a):qj qc 18 [eTS ts,eMd m,aI k,lPm env,eNd a] (.tup [aB (fmV ((den ⟨ts,m⟩ a).F ⟨k,env⟩)).1,aI (fmV ((den ⟨ts,m⟩ a).F ⟨k,env⟩)).2]):=by
 have h:=Yp ⟨ts,m⟩ _ a ha.w F.ma ⟨k,env⟩ F.p (by have:=ha.d;have:=F.el;show _+_<=_;simp only;omega);rw[Vh]at h;exact h
theorem qi3{ts:TS}{m:Md}{k:Nat}{env:List (ByteArray×Int)}(F:FitP ts m k env){a:Nd}(ha:WfN a):(reV ((den ⟨ts,m⟩ a).E ⟨k,env⟩)).1.ts.length<=8000:=by
 cases h:(den ⟨ts,m⟩ a).E ⟨k,env⟩ with
 |error e=>simp[reV]
 |ok r=>exact(Vb F.ma.toOkM _ a (qs _) ha _ r F.p h).len F.ma.n0 (by have:=F.ma.n12;omega)
theorem nM{ts:TS}{m:Md}{k:Nat}{env:List (ByteArray×Int)}(F:FitP ts m k env):FitP ts m ((⟨ts,m⟩:Mo).nx k) env:=⟨F.ma,OkP.nx F.ma.toOkM F.p,F.el,F.st⟩
theorem wkX(ts:TS)(m:Md)(k:Nat)(env:List (ByteArray×Int))(n:Nd):WKs [eTS ts,eMd m,aI k,lPm env,eNd n] [eTS ts,eMd m,aI k,lPm env,eNd n]:=wk5 ⟨ts,m⟩ ⟨k,env⟩ n
theorem un_ok{f:Nd}{F:Nat}(h:OkF F f):OkG F f:=⟨h.w,h.d⟩
theorem qi4(ts:TS)(hs:bigS ts)(m:Md)(s:Int)(env:List (ByteArray×Int))(f g a:Nd):qj qc 7 [eTS ts,eMd m,aI s,lPm env,eNd f,eNd g,eNd a] (aB true):=by
 have hfit:=VE hs m s env;refine qSQ call7 func7 rfl {} ?_;simp[go_sem];refine qe.pure W7 .nil ?_;simp[go_sem]
 first|refine qe.pure hfit (.cons (.hf (zh ts)) (.cons (.hf (yB m)) (.cons (.hf (HF.sc _)) (.cons (.hf (yJ env)) .nil)))) ?_ | (refine qg.intro (by kernel_rfl) ?_;simp[go_sem];refine qe.pure hfit (.cons (.hf (zh ts)) (.cons (.hf (yB m)) (.cons (.hf (HF.sc _)) (.cons (.hf (yJ env)) .nil)))) ?_)
 cases hF:fitB ts m s env (uw ts) with
 |false =>
  simp[go_sem];exact .hf _ (HF.sc _)
 |true =>
  obtain⟨k,rfl,F⟩:=VF hs hF;have hsm:=fun n=>nG m F.ma.gsc (by have:=F.st;omega) n
  simp[go_sem];refine qe.pure (hsm f) (wkS m f) ?_;by_cases c1:smB m f=true
  case neg =>
   rw[Bool.eq_false_iff.2 c1];simp[go_sem];exact .hf _ (HF.sc _)
  rw[c1];simp[go_sem];refine qe.pure (hsm g) (wkS m g) ?_;by_cases c2:smB m g=true
  case neg =>
   rw[Bool.eq_false_iff.2 c2];simp[go_sem];exact .hf _ (HF.sc _)
  rw[c2];simp[go_sem];refine qe.pure (hsm a) (wkS m a) ?_;by_cases c3:smB m a=true
  case neg =>
   rw[Bool.eq_false_iff.2 c3];simp[go_sem];exact .hf _ (HF.sc _)
  rw[c3];simp[go_sem];refine qe.pure (W5 f) (wk1 f) ?_;by_cases c4:kd f.op=102
  case neg =>
   rw[decide_eq_false c4];simp[go_sem];exact .hf _ (HF.sc _)
  rw[decide_eq_true c4];simp[go_sem];refine qe.pure (W5 g) (wk1 g) ?_;by_cases c5:kd g.op=102
  case neg =>
   rw[decide_eq_false c5];simp[go_sem];exact .hf _ (HF.sc _)
  rw[decide_eq_true c5];simp[go_sem];refine qe.pure (qiV a) (wk1 a) ?_;by_cases c6:kd a.op=101
  case neg =>
   rw[decide_eq_false c6];simp[go_sem];exact .hf _ (HF.sc _)
  rw[decide_eq_true c6];simp[go_sem];have vf:=VG c1;have vg:=VG c2;have va:=VG c3;have of:OkF 24 f:=⟨jp vf,vU vf,c4⟩;have og:OkF 24 g:=⟨jp vg,vU vg,c5⟩;have oa:OkG 24 a:=⟨jp va,vU va⟩;have op:OkG 100 (nk 5 [a]):=⟨wf1 oa.w (by rw[c6];decide) (by decide) _,by rw[dn1];have:=oa.d;omega⟩;have hex:=VI F op;have hex2:=VI (nM F) (⟨oa.w,by have:=oa.d;omega⟩:OkG 100 a);rw[qe3]at hex;have hln:=qi3 (nM F) oa.w;have hnx:=J0 ⟨ts,m⟩ F.ma.loop (by have:=F.st;show m.states.length<=_;omega) k F.p.st;have wnx:WKs [eMd m,aI k] [eMd m,aI k] := .cons (.hf (yB m)) (.cons (.hf (HF.sc _)) .nil);have ou:=okf2 (op:=51) of og (by decide) (by decide) (by decide);have hun:=ZI F (un_ok (jq ou (by decide)));have ob:=okf1 (op:=48) of (by decide) (by decide) (by decide);have ol:=okf1 (op:=49) of (by decide) (by decide) (by decide);have ot:OkF 2 (nk 30 []):=⟨jp (by decide +kernel),by decide,by decide⟩
  first|refine qe.pure (qJ 5 [a]) (wN 5 [a]) ?_ | (refine qg.intro (by kernel_rfl) ?_;simp[go_sem];refine qe.pure (qJ 5 [a]) (wN 5 [a]) ?_)
  simp[go_sem]
  first|refine qe.pure hex (wkX ts m k env _) ?_ | (refine qg.intro (by kernel_rfl) ?_;simp[go_sem];refine qe.pure hex (wkX ts m k env _) ?_)
  simp[go_sem]
  first|refine qe.pure hnx wnx ?_ | (refine qg.intro (by kernel_rfl) ?_;simp[go_sem];refine qe.pure hnx wnx ?_)
  simp[go_sem]
  first|refine qe.pure hex2 (wkX ts m _ env a) ?_ | (refine qg.intro (by kernel_rfl) ?_;simp[go_sem];refine qe.pure hex2 (wkX ts m _ env a) ?_)
  generalize reV ((den ⟨ts,m⟩ a).E ⟨(⟨ts,m⟩:Mo).nx k,env⟩)=RE at *
  simp[go_sem]
  first|refine qe.pure (nL RE.1 RE.2 (by omega)) (.cons (.hf (qR _)) (.cons (.hf (HF.sc _)) (.cons (.hf (qR _)) (.cons (.hf (HF.sc _)) .nil)))) ?_ | (refine qg.intro (by kernel_rfl) ?_;simp[go_sem];refine qe.pure (nL RE.1 RE.2 (by omega)) (.cons (.hf (qR _)) (.cons (.hf (HF.sc _)) (.cons (.hf (qR _)) (.cons (.hf (HF.sc _)) .nil)))) ?_)
  simp[go_sem]
  first|refine qe.pure (qJ 51 [f,g]) (wN 51 [f,g]) ?_ | (refine qg.intro (by kernel_rfl) ?_;simp[go_sem];refine qe.pure (qJ 51 [f,g]) (wN 51 [f,g]) ?_)
  simp[go_sem]
  first|refine qe.pure hun (wkX ts m k env _) ?_ | (refine qg.intro (by kernel_rfl) ?_;simp[go_sem];refine qe.pure hun (wkX ts m k env _) ?_)
  cases hu:(den ⟨ts,m⟩ (nk 51 [f,g])).F ⟨k,env⟩ with
  |error e =>
   have he:¬e=0:=(VH ⟨ts,m⟩ _ (nk 51 [f,g]) (qs _)).F _ e hu;simp[go_sem,fmV,he];exact .hf _ (HF.sc _)
  |ok v =>
   have hU:=qe4 F.ma.toOkX F.p.st env f g hu;have h1:=YO F (jq ob (by decide)) (jq (okf2 (op:=41) (jq of (by decide:24<=26)) (okf1 (op:=50) ob (by decide) (by decide) (by decide)) (by decide) (by decide) (by decide)) (by decide)) hU.one;have h2:=YO F (jq ol (by decide)) (jq (okf2 (op:=42) (jq of (by decide:24<=26)) (okf1 (op:=50) ol (by decide) (by decide) (by decide)) (by decide) (by decide) (by decide)) (by decide)) hU.two;have h3:=YO F (jq ou (by decide)) (jq (okf2 (op:=42) (jq og (by decide:24<=27)) (okf2 (op:=41) (jq of (by decide:24<=26)) (okf1 (op:=50) ou (by decide) (by decide) (by decide)) (by decide) (by decide) (by decide)) (by decide) (by decide) (by decide)) (by decide)) hU.three;have h4:=YO F (jq ol (by decide)) (jq (okf2 (op:=51) (jq ot (by decide:2<=24)) of (by decide) (by decide) (by decide)) (by decide)) hU.four;have h5:=YO F (jq (okf2 (op:=43) ou (okf1 (op:=49) og (by decide) (by decide) (by decide)) (by decide) (by decide) (by decide)) (by decide)) (jq ot (by decide)) hU.five;simp[go_sem,fmV]
   first|refine qe.pure (qJ 48 [f]) (wN 48 [f]) ?_ | (refine qg.intro (by kernel_rfl) ?_;simp[go_sem];refine qe.pure (qJ 48 [f]) (wN 48 [f]) ?_)
   simp[go_sem,qm]
   first|refine qe.pure (qJ 49 [f]) (wN 49 [f]) ?_ | (refine qg.intro (by kernel_rfl) ?_;simp[go_sem];refine qe.pure (qJ 49 [f]) (wN 49 [f]) ?_)
   simp[go_sem,qm]
   first|refine qe.pure (qJ 51 [f,g]) (wN 51 [f,g]) ?_ | (refine qg.intro (by kernel_rfl) ?_;simp[go_sem];refine qe.pure (qJ 51 [f,g]) (wN 51 [f,g]) ?_)
   simp[go_sem,qm]
   first|refine qe.pure (qJ 50 [nk 48 [f]]) (wN 50 [nk 48 [f]]) ?_ | (refine qg.intro (by kernel_rfl) ?_;simp[go_sem];refine qe.pure (qJ 50 [nk 48 [f]]) (wN 50 [nk 48 [f]]) ?_)
   simp[go_sem,qm]
   first|refine qe.pure (qJ 41 [f,nk 50 [nk 48 [f]]]) (wN 41 [f,nk 50 [nk 48 [f]]]) ?_ | (refine qg.intro (by kernel_rfl) ?_;simp[go_sem];refine qe.pure (qJ 41 [f,nk 50 [nk 48 [f]]]) (wN 41 [f,nk 50 [nk 48 [f]]]) ?_)
   simp[go_sem,qm]
   first|refine qe.pure (h1) (wk6 ⟨ts,m⟩ ⟨k,env⟩ (nk 48 [f]) (nk 41 [f,nk 50 [nk 48 [f]]])) ?_ | (refine qg.intro (by kernel_rfl) ?_;simp[go_sem];refine qe.pure (h1) (wk6 ⟨ts,m⟩ ⟨k,env⟩ (nk 48 [f]) (nk 41 [f,nk 50 [nk 48 [f]]])) ?_)
   simp[go_sem,qm]
   first|refine qe.pure (qJ 50 [nk 49 [f]]) (wN 50 [nk 49 [f]]) ?_ | (refine qg.intro (by kernel_rfl) ?_;simp[go_sem];refine qe.pure (qJ 50 [nk 49 [f]]) (wN 50 [nk 49 [f]]) ?_)
   simp[go_sem,qm]
   first|refine qe.pure (qJ 42 [f,nk 50 [nk 49 [f]]]) (wN 42 [f,nk 50 [nk 49 [f]]]) ?_ | (refine qg.intro (by kernel_rfl) ?_;simp[go_sem];refine qe.pure (qJ 42 [f,nk 50 [nk 49 [f]]]) (wN 42 [f,nk 50 [nk 49 [f]]]) ?_)
   simp[go_sem,qm]
   first|refine qe.pure (h2) (wk6 ⟨ts,m⟩ ⟨k,env⟩ (nk 49 [f]) (nk 42 [f,nk 50 [nk 49 [f]]])) ?_ | (refine qg.intro (by kernel_rfl) ?_;simp[go_sem];refine qe.pure (h2) (wk6 ⟨ts,m⟩ ⟨k,env⟩ (nk 49 [f]) (nk 42 [f,nk 50 [nk 49 [f]]])) ?_)
   simp[go_sem,qm]
   first|refine qe.pure (qJ 50 [nk 51 [f,g]]) (wN 50 [nk 51 [f,g]]) ?_ | (refine qg.intro (by kernel_rfl) ?_;simp[go_sem];refine qe.pure (qJ 50 [nk 51 [f,g]]) (wN 50 [nk 51 [f,g]]) ?_)
   simp[go_sem,qm]
   first|refine qe.pure (qJ 41 [f,nk 50 [nk 51 [f,g]]]) (wN 41 [f,nk 50 [nk 51 [f,g]]]) ?_ | (refine qg.intro (by kernel_rfl) ?_;simp[go_sem];refine qe.pure (qJ 41 [f,nk 50 [nk 51 [f,g]]]) (wN 41 [f,nk 50 [nk 51 [f,g]]]) ?_)
   simp[go_sem,qm]
   first|refine qe.pure (qJ 42 [g,nk 41 [f,nk 50 [nk 51 [f,g]]]]) (wN 42 [g,nk 41 [f,nk 50 [nk 51 [f,g]]]]) ?_ | (refine qg.intro (by kernel_rfl) ?_;simp[go_sem];refine qe.pure (qJ 42 [g,nk 41 [f,nk 50 [nk 51 [f,g]]]]) (wN 42 [g,nk 41 [f,nk 50 [nk 51 [f,g]]]]) ?_)
   simp[go_sem,qm]
   first|refine qe.pure (h3) (wk6 ⟨ts,m⟩ ⟨k,env⟩ (nk 51 [f,g]) (nk 42 [g,nk 41 [f,nk 50 [nk 51 [f,g]]]])) ?_ | (refine qg.intro (by kernel_rfl) ?_;simp[go_sem];refine qe.pure (h3) (wk6 ⟨ts,m⟩ ⟨k,env⟩ (nk 51 [f,g]) (nk 42 [g,nk 41 [f,nk 50 [nk 51 [f,g]]]])) ?_)
   simp[go_sem,qm]
   first|refine qe.pure (qJ 30 []) (wN 30 []) ?_ | (refine qg.intro (by kernel_rfl) ?_;simp[go_sem];refine qe.pure (qJ 30 []) (wN 30 []) ?_)
   simp[go_sem,qm]
   first|refine qe.pure (qJ 51 [nk 30 [],f]) (wN 51 [nk 30 [],f]) ?_ | (refine qg.intro (by kernel_rfl) ?_;simp[go_sem];refine qe.pure (qJ 51 [nk 30 [],f]) (wN 51 [nk 30 [],f]) ?_)
   simp[go_sem,qm]
   first|refine qe.pure (h4) (wk6 ⟨ts,m⟩ ⟨k,env⟩ (nk 49 [f]) (nk 51 [nk 30 [],f])) ?_ | (refine qg.intro (by kernel_rfl) ?_;simp[go_sem];refine qe.pure (h4) (wk6 ⟨ts,m⟩ ⟨k,env⟩ (nk 49 [f]) (nk 51 [nk 30 [],f])) ?_)
   simp[go_sem,qm]
   first|refine qe.pure (qJ 49 [g]) (wN 49 [g]) ?_ | (refine qg.intro (by kernel_rfl) ?_;simp[go_sem];refine qe.pure (qJ 49 [g]) (wN 49 [g]) ?_)
   simp[go_sem,qm]
   first|refine qe.pure (qJ 43 [nk 51 [f,g],nk 49 [g]]) (wN 43 [nk 51 [f,g],nk 49 [g]]) ?_ | (refine qg.intro (by kernel_rfl) ?_;simp[go_sem];refine qe.pure (qJ 43 [nk 51 [f,g],nk 49 [g]]) (wN 43 [nk 51 [f,g],nk 49 [g]]) ?_)
   simp[go_sem,qm]
   first|refine qe.pure (qJ 30 []) (wN 30 []) ?_ | (refine qg.intro (by kernel_rfl) ?_;simp[go_sem];refine qe.pure (qJ 30 []) (wN 30 []) ?_)
   simp[go_sem,qm]
   first|refine qe.pure (h5) (wk6 ⟨ts,m⟩ ⟨k,env⟩ (nk 43 [nk 51 [f,g],nk 49 [g]]) (nk 30 [])) ?_ | (refine qg.intro (by kernel_rfl) ?_;simp[go_sem];refine qe.pure (h5) (wk6 ⟨ts,m⟩ ⟨k,env⟩ (nk 43 [nk 51 [f,g],nk 49 [g]]) (nk 30 [])) ?_)
   simp[go_sem,qm];exact .hf _ (HF.sc _)
end FK
namespace DL
open Go.EvW Go.RowKit Go.ChangeShapes Go.WideShapes
theorem own:ownKnob qc.godebug=none:=by kernel_rfl
theorem laid:laidOutB qc=true:=by kernel_rfl
abbrev tabL : List (String × DataW Unit) := [("math/bits.deBruijn32tab", Rows.laid_math_bits_deBruijn32tab), ("math/bits.deBruijn64tab", Rows.laid_math_bits_deBruijn64tab), ("internal/strconv.uint64pow10", Rows.laid_internal_strconv_uint64pow10)]
def pows:List Int:=[1,10,100,1000,10000,100000,1000000,10000000,100000000,1000000000,10000000000,100000000000,1000000000000,10000000000000,100000000000000,1000000000000000,10000000000000000,100000000000000000,1000000000000000000,10000000000000000000]
theorem gPow : qc.globalNamed "internal/strconv.uint64pow10" = some 0 := by kernel_rfl
theorem tPow:(qc.globals[0]?).map (·.type)=some 330:=by kernel_rfl
theorem uPow:qc.underlying 330=some (.array 20 271):=by kernel_rfl
theorem uU64:qc.underlying 271=some (.int .u64):=by kernel_rfl
theorem Xa{W:World}(h:laidMetH qc tabL W):wL (·<W.heap.size) W.heap:=by
  rw[MakeChecks.laidMetH_plain _ _ _ (by kernel_rfl)]at h;obtain⟨ps,hl,_⟩:=h
  obtain ⟨g, t, cs, fuel, p, hg, ht, hv, hd⟩ := ge hl ("internal/strconv.uint64pow10", Rows.laid_internal_strconv_uint64pow10) (by simp)
  obtain rfl:=Option.some.inj (gPow.symm.trans hg);obtain rfl:=Option.some.inj (tPow.symm.trans ht);have hc:cs.toList=pows.map fun i => .int .u64 i:=qgM uPow uU64 (by kernel_rfl) (by kernel_rfl) (ns:=pows) hd
  obtain⟨e,fr,ho⟩:=qgN gPow hv;intro x hx;have hx:x∈[(0,pows.map fun i=>Value.int .u64 i)]:=hx;rw[List.mem_singleton]at hx;subst hx;refine⟨(Array.getElem?_eq_some_iff.1 ho).1,e,fr,?_⟩;show W.heap[0]?=_;rw[ho];have:cs=(pows.map fun i=>Value.int .u64 i).toArray:=by rw[<-hc]
  rw[this]
theorem Xb(os:Os)(args:Array Value):laidMetH qc tabL ((World.doorLaid qc 4000 os).forCall (fun _ _=>0) ⟨#[],args,[]⟩).memory:=
 laidMetH_of_parts3 (fuel:=8) (laidMet_of_run' 8 (by kernel_rfl) (by kernel_rfl)) (by kernel_rfl) (by kernel_rfl)
end DL
namespace DM
open Go.EvW YF Y1 E3 DT
instance:Inhabited Rl:=⟨⟨0,[]⟩⟩
instance:Inhabited Sc:=⟨⟨[],0⟩⟩
instance:Inhabited Md:=⟨⟨default,[],0⟩⟩
theorem qi5:qc.underlying 77=some (.slice 42):=by kernel_rfl
theorem qi6:qc.underlying 31=some (.slice 77):=by kernel_rfl
theorem nN:qc.underlying 34=some (.slice 68):=by kernel_rfl
theorem shRel(N:Nat):ShU qc N 42 cRel (fun _=>True):=
 ((ShU.struct (fs:=[(3,0),(28,1)]) (by kernel_rfl) (.cons' (o':=1) (by kernel_rfl) (uy N) (.cons' (o':=2) (by kernel_rfl) (WI N) (.nil 2))) (by kernel_rfl)).map
  (fun x=>(⟨x.1,x.2.1⟩:Rl)) (fun _=>rfl) (fun x h=>trivial)).le (by omega)
theorem qi7(N:Nat):ShU qc N 77 (fun b:List Rl=>[.lst false (b.map cRel)]) (fun _=>True):=
 ((ShU.slice qi5 (shRel N) (fun _ _=>by kernel_rfl) (Nat.lt_of_lt_of_eq (show 0<2 by omega) (by kernel_rfl)) (by kernel_rfl)).le (by omega)).map (fun l=>l) (fun _=>rfl) fun _ _=>trivial
theorem qi8(N:Nat):ShU qc N 31 (fun b:List (List Rl)=>[lSt b]) (fun _=>True):=
 ((ShU.slice qi6 (qi7 N) (fun _ _=>by kernel_rfl) (Nat.lt_of_lt_of_eq (show 0<1 by omega) (by kernel_rfl)) (by kernel_rfl)).le (by omega)).map (fun l=>l) (fun _=>rfl) fun _ _=>trivial
theorem qi9(N:Nat):ShU qc N 30 (fun s:Sc=>[lI s.atoms,aI s.steps]) (fun _=>True):=
 ((ShU.struct (fs:=[(28,0),(3,1)]) (by kernel_rfl) (.cons' (o':=1) (by kernel_rfl) (WI N) (.cons' (o':=2) (by kernel_rfl) (uy N) (.nil 2))) (by kernel_rfl)).map
  (fun x=>(⟨x.1,x.2.1⟩:Sc)) (fun _=>rfl) (fun x h=>trivial)).le (by omega)
theorem qjA(N:Nat):ShU qc N 33 cMd (fun _=>True):=
 ((ShU.struct (fs:=[(30,0),(31,2),(3,3)]) (by kernel_rfl) (.cons' (o':=2) (by kernel_rfl) (qi9 N) (.cons' (o':=3) (by kernel_rfl) (qi8 N) (.cons' (o':=4) (by kernel_rfl) (uy N) (.nil 4)))) (by kernel_rfl)).map
  (fun x=>(⟨x.1,x.2.1,x.2.2.1⟩:Md)) (fun _=>rfl) (fun x h=>trivial)).le (by omega)
theorem Xc:ye qc 33 eMd (fun _=>True):=ye.struct (by kernel_rfl) qjA
theorem aInt:ye qc 3 (fun n:Int=>aI n) okI:=ye.int gg uy
theorem aStr:ye qc 9 (fun s:ByteArray=>aS s) (fun _=>True):=ye.string gh fun N=>(wJ N).map (fun s=>s) (fun _=>rfl) fun _ _=>trivial
theorem nO(N:Nat):ShU qc N 68 cPm (fun _=>True):=
 ((ShU.struct (fs:=[(9,0),(3,1)]) (by kernel_rfl) (.cons' (o':=1) (by kernel_rfl) (wJ N) (.cons' (o':=2) (by kernel_rfl) (uy N) (.nil 2))) (by kernel_rfl)).map
  (fun x=>((x.1,x.2.1):ByteArray×Int)) (fun _=>rfl) (fun x h=>trivial)).le (by omega)
theorem qjB(N:Nat):ShU qc N 34 (fun l:List (ByteArray×Int)=>[lPm l]) (fun l=>l.length<=140737488351232):=
 ((ShU.slice nN (nO N) (fun _ _=>by kernel_rfl) (Nat.lt_of_lt_of_eq (show 0<2 by omega) (by kernel_rfl)) (by kernel_rfl)).le (by omega)).map (fun l=>l) (fun _=>rfl) fun _ h=>h.1
theorem Xd:ye qc 34 lPm (fun l=>l.length<=140737488351232):=ye.slice nN qjB
theorem aBind:ye qc 68 (fun p => .agg (cPm p)) (fun _=>True):=ye.struct (by kernel_rfl) nO
end DM
namespace ZEvalUnfolds
open Go.EvW DL P1 Y1 YF E3 Go.RowKit Go.ChangeShapes Go.WideShapes
theorem law(x0:TS)(x1:Md)(x2:Int)(x3:List (ByteArray×Int))(x4:Nd)(x5:Nd)(x6:Nd)(h0:DT.okTA x0)(h1:True)(h2:DT.okI x2)(h3:x3.length<=140737488351232)(h4:True)(h5:True)(h6:True):qj qc 7 [eTS x0,eMd x1,aI x2,lPm x3,eNd x4,eNd x5,eNd x6] (aB true):=
 FK.qi4 x0 (fun x hx=>zz (h0.so x hx) (jg rfl)) x1 x2 x3 x4 x5 x6
set_option maxRecDepth 100000 in
theorem lifted(os:Os)(started:os.Started)(H:Type)(enc:TypeId×Value->H) :
  ReturnsInHanded {} checked os 7 .any (fun w args=>(Rows.evalUnfoldsSpec.pre enc qc f7 [] false w args/\laidMetH qc tabL w)/\sizedMet enc qc f7 (OpenSpec.ofChange Rows.evalUnfoldsSpec) false w args) (Rows.evalUnfoldsSpec.post enc qc f7 false true false false):=by
 refine returnsInHanded_of_change_and (C:=checked) (X:=fun w _=>laidMetH qc tabL w) (fun _ _ _ hh h=>h.of_heap hh) own started (by kernel_rfl) func7
  (ChangeSpec.witness_shaped (enc:=enc) (C:=checked) (os:=os) (X:=fun w _=>laidMetH qc tabL w) false (World.doorLaid qc 4000 os) #[.agg #[.slice none 0 0,.slice none 0 0,.slice none 0 0,.slice none 0 0],.agg #[.slice none 0 0,.int .i64 0,.slice none 0 0,.int .i64 0],.int .i64 0,.slice none 0 0,.agg #[.int .i64 0,.string ⟨#[]⟩,.int .i64 0,.slice none 0 0,.int .i64 0],.agg #[.int .i64 0,.string ⟨#[]⟩,.int .i64 0,.slice none 0 0,.int .i64 0],.agg #[.int .i64 0,.string ⟨#[]⟩,.int .i64 0,.slice none 0 0,.int .i64 0]] 8 rfl (World.shaped_of_RefB (by kernel_rfl) (by kernel_rfl)) (by kernel_rfl) (by kernel_rfl) (by kernel_rfl) (Xb os _)) ?_
 intro W base args ds gs before hval hW _ hwt hL _;exact WH (ts:=[27,33,3,34,37,37,37]) (tb:=4) (by kernel_rfl) (.cons DT.WJ (.cons DM.Xc (.cons DM.aInt (.cons DM.Xd (.cons DT.Zy (.cons DT.Zy (.cons DT.Zy .nil))))))) rfl
  (fun H ds h=>by match ds,h with | [_,_,_,_,_,_,_],h10=>rfl) (by kernel_rfl) DT.Vq laid (by kernel_rfl) (fun a h=>law a.1 a.2.1 a.2.2.1 a.2.2.2.1 a.2.2.2.2.1 a.2.2.2.2.2.1 a.2.2.2.2.2.2.1 h.1 h.2.1 h.2.2.1 h.2.2.2.1 h.2.2.2.2.1 h.2.2.2.2.2.1 h.2.2.2.2.2.2.1) H enc W base args ds gs before hval hW (by
   obtain⟨p,q,hA,hV,_⟩:=hW;obtain⟨rfl,_⟩:=trodVars_none hV;have hwt':(DataW.weightsEach qc ([27,33,3,34,37,37,37]++[]) (ds++[])).all (·<=reachBytes)=true:=hwt;rw[zl,zl]at hwt';exact hwt') (Xa hL)
end ZEvalUnfolds
namespace ZFEvalUnfolds
open Go.RowKit Go.ChangeShapes Go.WideShapes
theorem c0:(Rows.evalUnfoldsRow.wf (OpenSpec.ofChange Rows.evalUnfoldsSpec))=true:=by kernel_rfl
theorem c1:(laidOutB checked.prog)=true:=by kernel_rfl
theorem c2:(mapsRowed checked.prog)=true:=by kernel_rfl
theorem c3:(f7.params.all (checked.prog.readableRec ·))=true:=by kernel_rfl
theorem c4:(namedTie checked.prog Rows.evalUnfoldsRow.named Rows.evalUnfoldsSpec.vars)=true:=by kernel_rfl
theorem c5:((Rows.evalUnfoldsRow.stops == []))=true:=by kernel_rfl
theorem c6:((checked.prog.stops == []))=true:=by kernel_rfl
theorem c7:((Rows.evalUnfoldsRow.knobs == []))=true:=by kernel_rfl
theorem c8:((checked.prog.stopKnobs == []))=true:=by kernel_rfl
theorem c9:((Rows.evalUnfoldsRow.inPlace == checked.prog.inPlace 7))=true:=by kernel_rfl
theorem c10:((Rows.evalUnfoldsRow.unfollowed == checked.prog.unfollowed 7))=true:=by kernel_rfl
theorem c11:((Rows.evalUnfoldsRow.recurses == checked.prog.recurses 7))=true:=by kernel_rfl
theorem c12:((Rows.evalUnfoldsRow.named == checked.prog.varsNamed 7))=true:=by kernel_rfl
theorem c13:((Rows.evalUnfoldsRow.maps == (f7.params.toList++Rows.evalUnfoldsSpec.plain.varTypes checked.prog).any (checked.prog.mapsRec ·)))=true:=by kernel_rfl
theorem c14:((Rows.evalUnfoldsRow.ifaces == (f7.params.toList++Rows.evalUnfoldsSpec.plain.varTypes checked.prog).any (checked.prog.ifacesRec ·)))=true:=by kernel_rfl
theorem c15:((Rows.evalUnfoldsRow.mapsOut == checked.prog.mapsAmong f7.resultTypes.toList))=true:=by kernel_rfl
theorem c16:((Rows.evalUnfoldsRow.loops == (f7.params.toList++Rows.evalUnfoldsSpec.plain.varTypes checked.prog).any (checked.prog.loopsFrom ·)))=true:=by kernel_rfl
theorem c17:((Rows.evalUnfoldsRow.wideKeys == (f7.params.toList++Rows.evalUnfoldsSpec.plain.varTypes checked.prog++f7.resultTypes.toList).any (checked.prog.wideKeysFrom ·)))=true:=by kernel_rfl
theorem c18:(Rows.evalUnfoldsSpec.vars.all (checked.prog.varReadable ·))=true:=by kernel_rfl
theorem c19:(f7.resultTypes.all (fun t=>checked.prog.readableRec t&&decide (t<checked.prog.types.size)))=true:=by kernel_rfl
theorem c20:((Rows.evalUnfoldsRow.ifacesOut == f7.resultTypes.toList.any (checked.prog.ifacesRec ·)))=true:=by kernel_rfl
theorem c21:((Rows.evalUnfoldsRow.loopsOut == f7.resultTypes.toList.any (checked.prog.loopsFrom ·)))=true:=by kernel_rfl
theorem c22:((Rows.evalUnfoldsRow.plainKeys == checked.prog.plainKeys))=true:=by kernel_rfl
theorem c23:(Rows.evalUnfoldsRow.shortTexts.isNone)=true:=by kernel_rfl
theorem c24:(checked.prog.stopsHeard)=true:=by kernel_rfl
theorem c25:(checked.prog.mayEnter)=true:=by kernel_rfl
theorem c26:((Rows.evalUnfoldsRow.lifted == checked.prog.liftsFinal))=true:=by kernel_rfl
theorem c27:((checked.prog.make == some Rows.evalUnfoldsRow.make))=true:=by kernel_rfl
theorem c28:((Rows.evalUnfoldsRow.kinds == (if Rows.evalUnfoldsRow.domain.isEmpty then [] else f7.params.toList.map fun t=>match checked.prog.underlying t with|some (.int k)=>some k|_=>none)))=true:=by kernel_rfl
theorem c29:((Rows.evalUnfoldsRow.pinned == Rows.evalUnfoldsRow.pinnedBy))=true:=by kernel_rfl
theorem c30:((Rows.evalUnfoldsRow.veiled == (f7.params.toList++Rows.evalUnfoldsSpec.plain.varTypes checked.prog++f7.resultTypes.toList).any (checked.prog.veiledRec ·)))=true:=by kernel_rfl
theorem c31:(Rows.evalUnfoldsRow.veiledFits checked.prog f7.params.toList (f7.params.toList++Rows.evalUnfoldsSpec.plain.varTypes checked.prog++f7.resultTypes.toList))=true:=by kernel_rfl
end ZFEvalUnfolds
namespace ZEvalUnfolds
open Go.RowKit Go.ChangeShapes Go.WideShapes
theorem qx{a b:Bool}(ha:a=true)(hb:b=true):(a&&b)=true:=by rw[ha,hb];rfl
set_option maxRecDepth 100000 in
theorem closed:joinedFacts checked.prog 7 f7 Rows.evalUnfoldsSpec Rows.evalUnfoldsRow=true:=by
 unfold joinedFacts;exact qx (qx (qx (qx (qx (qx (qx (qx (qx (qx (qx (qx (qx (qx (qx (qx (qx (qx (qx (qx (qx (qx (qx (qx (qx (qx (qx (qx (qx (qx (qx ZFEvalUnfolds.c0 ZFEvalUnfolds.c1) ZFEvalUnfolds.c2) ZFEvalUnfolds.c3) ZFEvalUnfolds.c4) ZFEvalUnfolds.c5) ZFEvalUnfolds.c6) ZFEvalUnfolds.c7) ZFEvalUnfolds.c8) ZFEvalUnfolds.c9) ZFEvalUnfolds.c10) ZFEvalUnfolds.c11) ZFEvalUnfolds.c12) ZFEvalUnfolds.c13) ZFEvalUnfolds.c14) ZFEvalUnfolds.c15) ZFEvalUnfolds.c16) ZFEvalUnfolds.c17) ZFEvalUnfolds.c18) ZFEvalUnfolds.c19) ZFEvalUnfolds.c20) ZFEvalUnfolds.c21) ZFEvalUnfolds.c22) ZFEvalUnfolds.c23) ZFEvalUnfolds.c24) ZFEvalUnfolds.c25) ZFEvalUnfolds.c26) ZFEvalUnfolds.c27) ZFEvalUnfolds.c28) ZFEvalUnfolds.c29) ZFEvalUnfolds.c30) ZFEvalUnfolds.c31
theorem said:Rows.EvalUnfoldsSaid:=
 OpenClaim.holds_of_wide 7 f7 rfl rfl rfl rfl rfl rfl rfl ⟨rfl,rfl,rfl,rfl,rfl⟩ rfl rfl rfl rfl rfl (by kernel_rfl) func7 closed
  (of_decide_eq_true (by kernel_rfl)) (by unfold Func.isWrapper;first | (rw[if_pos (by decide +kernel)];kernel_rfl) | (rw[if_neg (by decide +kernel)];exact⟨rfl,rfl⟩))
  (fun os started H enc _=>lifted os started H enc)
end ZEvalUnfolds
namespace E6
open Y1 Y9 Y1 Y9 YZ YC E3
structure VJ (d:Den) (p q:Pl):Prop where
 E:d.E p=d.E q
 N:d.N p=d.N q
 F:d.F p=d.F q
theorem qjC{x:Mo}{op:Int}{nm:ByteArray}{i:Int}{ds:List Den}{env env':List (ByteArray×Int)}(hn:op=1->zI nm env=zI nm env')
  (hk:∀ j s,VJ (kD ds j) ⟨s,env⟩ ⟨s,env'⟩) (hb:∀ s a,(kD ds 1).F ⟨s,env++[(nm,a)]⟩=(kD ds 1).F ⟨s,env'++[(nm,a)]⟩) (hm:∀ s,mapX (fun d:Den=>d.E ⟨s,env⟩) ds=mapX (fun d:Den=>d.E ⟨s,env'⟩) ds) (s:Nat):VJ (opD x op nm i ds) ⟨s,env⟩ ⟨s,env'⟩:=by
 have hE:=fun j s=>(hk j s).E
 have hN:=fun j s=>(hk j s).N
 have hF:=fun j s=>(hk j s).F
 refine⟨?_,?_,?_⟩
 .show opE x op nm i ds ⟨s,env⟩=opE x op nm i ds ⟨s,env'⟩
  by_cases h1:op=1
  .subst h1
   simp only[opE,if_true,uY,hn rfl]
  .simp only[opE,if_neg h1,zT,binE,zY,hE,hN,hF,hb]
 .show opN op i ds ⟨s,env⟩=opN op i ds ⟨s,env'⟩
  simp only[opN,hE,hN,hF]
 .show opF x op nm ds ⟨s,env⟩=opF x op nm ds ⟨s,env'⟩
  simp only[opF,zT,zY,hE,hN,hF,hb,hm]
theorem Xe(nm:ByteArray)(env:List (ByteArray×Int))(e:ByteArray×Int):zI nm (env++[e])=if e.1=nm then some e.2 else zI nm env:=by
 unfold zI;rw[wK];rfl
theorem nP(x:Mo)(R:ByteArray->Prop):∀(m:Nat) (n:Nd),szN n<=m->(∀ y,y∈preN n->R y.name)->∀(env env':List (ByteArray×Int)),(∀ nm,R nm->zI nm env=zI nm env')->∀ s,VJ (den x n) ⟨s,env⟩ ⟨s,env'⟩
 | 0,n,hm,_=>by obtain⟨op,nm,i,ks,p⟩:=n;simp[szN]at hm
 |m+1,n,hm,hR=>by
  intro env env' he s;rw[Zl];have ih:∀ k,k∈n.kids->∀(env env':List (ByteArray×Int)),(∀ nm,R nm->zI nm env=zI nm env')->∀ s,VJ (den x k) ⟨s,env⟩ ⟨s,env'⟩:=fun k hk =>
   nP x R m k (by have:=yj hk;omega) fun y hy=>hR y (by rw[Vn];exact zD _ (qgD hk hy))
  have hget:∀ j,kD (n.kids.map (den x)) j=noD\/∃ k,k∈n.kids/\kD (n.kids.map (den x)) j=den x k:=fun j=>by
   unfold kD;by_cases hj:j<n.kids.length
   .exact .inr ⟨n.kids[j],qw hj,by simp[List.getD,hj]⟩
   .exact .inl (by simp[List.getD,hj])
  refine qjC (fun _=>he _ (hR n (by rw[Vn];exact zW ..))) (fun j s=>?_) (fun s a=>?_) (fun s=>?_) s
  .rcases hget j with h|⟨k,hk,h⟩
   .rw [h];exact⟨rfl,rfl,rfl⟩
   .rw [h];exact ih k hk env env' he s
  .rcases hget 1 with h|⟨k,hk,h⟩
   .rw [h];rfl
   .rw [h]
    exact(ih k hk _ _ (fun nm hr=>by rw[Xe,Xe,he nm hr]) s).F
  .have:∀ l:List Nd,(∀ k,k∈l->k∈n.kids)->mapX (fun d:Den=>d.E ⟨s,env⟩) (l.map (den x))=mapX (fun d:Den=>d.E ⟨s,env'⟩) (l.map (den x)):=by
    intro l;induction l with
    |nil=>intro _;rfl
    |cons k l ihl =>
     intro hl;simp only[List.map_cons,mapX];rw[(ih k (hl k (zW ..)) env env' he s).E,ihl fun y hy=>hl y (zD _ hy)]
   exact this n.kids fun k hk=>hk
end E6
namespace FL
open Y1 Y9 Y16 P1 P2 YF E3 Q4 F1 FC FD FE FF FG FI FK E6 F4 YG Y10 Q6 EO EP QB
theorem Xf(nm:ByteArray):∀(l:List (ByteArray×Int)) (r:Option Int),l.foldl (fun r e=>if e.1=nm then some e.2 else r) r=match zI nm l with|some v=>some v|none=>r
 | [],r=>rfl
 |e :: l,r=>by
  unfold zI;rw[List.foldl_cons,List.foldl_cons];by_cases h:e.1=nm
  .rw [if_pos h,if_pos h,Xf nm l (some e.2)]
   cases zI nm l<;>rfl
  .rw [if_neg h,if_neg h];exact Xf nm l r
theorem Xg(nm:ByteArray)(B A:List (ByteArray×Int)):zI nm (A++B)=match zI nm B with|some v=>some v|none=>zI nm A:=by
 have:=Xf nm B (zI nm A);unfold zI at this⊢;rw[wK];exact this
theorem nQ{nm:ByteArray}:∀{B:List (ByteArray×Int)},(∃ e,e∈B/\e.1=nm)->∃ v,zI nm B=some v
 | [],h=>by obtain⟨e,he,_⟩:=h;simp at he
 |e :: B,h=>by
  have e2:zI nm (e :: B)=match zI nm B with|some v=>some v|none=>zI nm [e]:=Xg nm B [e]
  rw[e2];cases hB:zI nm B with
  |some v=>exact⟨v,rfl⟩
  |none =>
   obtain⟨e',he',h2⟩:=h;rcases List.mem_cons.1 he' with rfl|h3
   .exact ⟨e'.2,by simp[zI,h2]⟩
   .obtain ⟨v,hv⟩:=nQ ⟨e',h3,h2⟩
    rw[hv]at hB;cases hB
theorem qjD{env:List (ByteArray×Int)}{k:Nat}{b:ByteArray×Int}{nm:ByteArray}(h:nm=b.1->∃ e,e∈env.drop k/\e.1=b.1):zI nm env=zI nm (env.take k++(b :: env.drop k)):=by
 conv=>lhs;rw[<-vh k env]
 rw[show b :: env.drop k=[b]++env.drop k from rfl,<-List.append_assoc,Xg,Xg,Xe];by_cases e:b.1=nm
 .obtain ⟨v,hv⟩:=nQ (nm:=nm) (B:=env.drop k) (by obtain⟨e',h1,h2⟩:=h e.symm;exact⟨e',h1,h2.trans e⟩)
  rw[hv]
 .rw [if_neg e]
theorem qjE(ts:TS)(hs:bigS ts)(m:Md)(s:Int)(env:List (ByteArray×Int))(f:Nd)(b:ByteArray×Int)(at_:Int)(hat:0<=at_/\at_<=255):qj qc 8 [eTS ts,eMd m,aI s,lPm env,eNd f,.agg (cPm b),.sc (.int .u8 at_)] (aB true):=by
 have hfit:=VE hs m s env;have hfit1:=VE hs m s [b];refine qSQ call8 func8 rfl {} ?_;simp[go_sem];refine qe.pure W7 .nil ?_;simp[go_sem]
 first|refine qe.pure hfit (.cons (.hf (zh ts)) (.cons (.hf (yB m)) (.cons (.hf (HF.sc _)) (.cons (.hf (yJ env)) .nil)))) ?_ | (refine qg.intro (by kernel_rfl) ?_;simp[go_sem];refine qe.pure hfit (.cons (.hf (zh ts)) (.cons (.hf (yB m)) (.cons (.hf (HF.sc _)) (.cons (.hf (yJ env)) .nil)))) ?_)
 cases hF:fitB ts m s env (uw ts) with
 |false =>
  simp[go_sem];exact .hf _ (HF.sc _)
 |true =>
  obtain⟨k,rfl,F⟩:=VF hs hF;simp[go_sem];refine qe.pure hfit1 (.cons (.hf (zh ts)) (.cons (.hf (yB m)) (.cons (.hf (HF.sc _)) (.cons (yD (xs:=[cPm b]) (ys:=[cPm b]) ⟨Vt (wA b),trivial⟩) .nil)))) ?_;by_cases c1:fitB ts m k [b] (uw ts)=true
  case neg =>
   rw[Bool.eq_false_iff.2 c1];simp[go_sem];exact .hf _ (HF.sc _)
  rw[c1];simp[go_sem];refine qe.pure (nF m F.ma.gsc (by have:=F.st;omega) f) (wkS m f) ?_;by_cases c2:wh m f=true
  case neg =>
   rw[Bool.eq_false_iff.2 c2];simp[go_sem];exact .hf _ (HF.sc _)
  rw[c2];simp[go_sem];refine qe.pure (W5 f) (wk1 f) ?_;by_cases c3:kd f.op=102
  case neg =>
   rw[decide_eq_false c3];simp[go_sem];exact .hf _ (HF.sc _)
  rw[decide_eq_true c3];have hel:=F.el;by_cases c4:env.length=8
  .have c4':(env.length:Int)=8:=by omega
   simp[go_sem,c4,c4'];exact .hf _ (HF.sc _)
  have c4':¬(env.length:Int)=8:=by omega
  have hvf:zV f=true:=by simp only[wh,Bool.and_eq_true]at c2;exact c2.1
  have w1:ql.wrap ((env.length:Int)+1)=(env.length:Int)+1:=qi (by omega) (by omega);have w2:ql.wrap at_=at_:=qi (by omega) (by omega)
  obtain⟨j,hj,hjl⟩:∃ j:Nat,at_.tmod ((env.length:Int)+1)=j/\j<=env.length:=by
   rw[Int.tmod_eq_emod_of_nonneg hat.1];have h1:=Int.emod_nonneg at_ (show (env.length:Int)+1≠0 by omega)
   have h2:=Int.emod_lt_of_pos at_ (show (0:Int)<(env.length:Int)+1 by omega)
   exact⟨(at_ % ((env.length:Int)+1)).toNat,by omega,by omega⟩
  have nz:¬(env.length:Int)+1=0:=by omega
  simp[go_sem,c4,c4',w1,w2,hj,nz];refine⟨⟨_,_,⟨rfl,rfl⟩,(F5.jd env).ok⟩,?_⟩;simp[go_sem,hjl];rw[<-List.map_take];refine qF.ownB (e:=68) (sz:=2) (bt:=24) (zv := .agg [aS ⟨#[]⟩,aI 0]) (xs:=([]:List (ByteArray×Int)).map cPm) (ys:=(env.take j).map cPm) (by simp[go_sem]) (by simp[go_sem]) (by simp[go_sem]) rfl rfl (by omega) (by omega) (.inl rfl) (by simp[qI]) (F5.jd []) (F5.jd (env.take j)) (by simp;omega) ?_;intro av1 mu1 ho1 _ _ _;simp[go_sem,Own.one ho1];refine qF.ownB (e:=68) (sz:=2) (bt:=24) (zv := .agg [aS ⟨#[]⟩,aI 0]) (xs:=(env.take j).map cPm) (ys:=[cPm b]) (by simp[go_sem]) (by simp[go_sem]) (by simp[go_sem]) rfl rfl (by omega) (by omega) (by simpa using ho1) (by simp[qI]) (F5.jd (env.take j)) (F5.jd [b]) (by simp;omega) ?_;intro av2 mu2 ho2 _ _ _;simp[go_sem,Own.one ho2,hj];refine⟨⟨_,_,⟨rfl,rfl⟩,(F5.jd env).ok⟩,?_⟩;have htd:List.drop j (List.take env.length (List.map cPm env))=(env.drop j).map cPm:=by rw[zX (by simp),List.map_drop]
  simp[go_sem,hjl,htd];refine qF.ownB (e:=68) (sz:=2) (bt:=24) (zv := .agg [aS ⟨#[]⟩,aI 0]) (xs:=(env.take j++[b]).map cPm) (ys:=(env.drop j).map cPm) (by simp[go_sem]) (by simp[go_sem]) (by simp[go_sem]) rfl rfl (by omega) (by omega) (by simpa using ho2) (by simp[qI]) (F5.jd (env.take j++[b])) (F5.jd (env.drop j)) (by simp;omega) ?_;intro av3 mu3 ho3 _ _ _;have ho:Own mu3 2 av3 ((env.take j++(b :: env.drop j)).map cPm):=by simpa using ho3
  simp[go_sem,Own.one ho];have hM:(env.take j++(b :: env.drop j)).length=env.length+1:=by simp;omega
  have F1:FitP ts m k (env.take j++(b :: env.drop j)):=by
   obtain⟨k',hk',G⟩:=VF hs c1;refine⟨F.ma,⟨F.p.st,fun e he=>?_⟩,by omega,F.st⟩;rcases List.mem_append.1 he with h|h
   .exact F.p.env e (List.mem_of_mem_take h)
   .rcases List.mem_cons.1 h with rfl|h
    .exact G.p.env _ (by simp)
    .exact F.p.env e (List.mem_of_mem_drop h)
  have og:OkG 100 f:=⟨jp hvf,by have:=vU hvf;omega⟩;have e1:=ZI F og;have e2:=ZI F1 og;have hsame:anyN (fun n=>decide (n.name=b.1)) f=false\/((env.drop j).any fun e=>decide (e.1=b.1))=true->(den ⟨ts,m⟩ f).F ⟨k,env⟩=(den ⟨ts,m⟩ f).F ⟨k,env.take j++(b :: env.drop j)⟩:=fun h=>by
   refine(nP ⟨ts,m⟩ (fun nm=>nm=b.1->((env.drop j).any fun e=>decide (e.1=b.1))=true) (szN f) f (qs _) (fun y hy e=>?_) _ _ (fun nm hnm=>qjD fun e=>?_) k).F
   .rcases h with h|h
    .rw [WG _ (szN f) f (qs _),List.any_eq_false]at h
     exact absurd e (by simpa using h y hy)
    .exact h
   .obtain ⟨e',h1,h2⟩:=List.any_eq_true.1 (hnm e)
    exact⟨e',h1,of_decide_eq_true h2⟩
  have hus:=pO b.1 (szN f) f (qs _) (jp hvf).small;generalize hX:env.take j++(b :: env.drop j)=X at *
  refine qn.fz ?_;refine FzQ.ownB (d:=17) (by simp[go_sem]) ho (F5.jd X) (fun r hr c hc=>?_) fun mu2 full _ _=>?_
  .obtain ⟨y,_,rfl⟩:=qq.1 hr
   exact wA y c hc
  refine qn.upK (env.length-j) (fun t st=>st.tm 2=aI k/\st.tm 3=lPm env/\st.tm 7 = .ip (cTS ts)/\st.tm 8 = .ip (cMd m)/\st.tm 11 = .ip (cNd f)/\st.tm 12 = .ip (cPm b)/\st.tm 15=aB true/\st.tm 17 = .lst full (X.map cPm)/\st.tm 18=aB (((env.drop j).take t).any fun e=>decide (e.1=b.1))/\st.tm 19=aI ((j+t:Nat):Int)) ?_ ?_
  .exact ⟨by simp[go_sem],by simp[go_sem],by simp[go_sem],by simp[go_sem],by simp[go_sem],by simp[go_sem],by simp[go_sem],by simp[go_sem],by simp[go_sem],by simp[go_sem]⟩
  rintro t st ht ⟨e2',e3,e7,e8,e11,e12,e15,e17,e18,e19⟩;by_cases hlt:t<env.length-j
  .obtain ⟨J,hJ,hjt⟩:∃ J,j+t=J/\J<env.length:=⟨_,rfl,by omega⟩
   have w3:ql.wrap ((J:Int)+1)=((j+(t+1):Nat):Int):=by rw[qi (by omega) (by omega)];omega
   have hdl:t<(env.drop j).length:=by simp;omega
   have hel':(env.drop j)[t]=env[J]:=by simp[List.getElem_drop,hJ]
   have hsn:=ya hdl;rw[hel']at hsn;have hany:(((env.drop j).take (t+1)).any fun e=>decide (e.1=b.1))=((((env.drop j).take t).any fun e=>decide (e.1=b.1))||decide (env[J].1=b.1)):=by rw[hsn,List.any_append];simp
   generalize (((env.drop j).take t).any fun e=>decide (e.1=b.1))=A at *
   rw[hJ]at e19;have hlt':t<env.length-j:=hlt;by_cases he:env[J].1=b.1
   all_goals cases A
   all_goals simp[go_sem,yb,e2',e3,e7,e8,e11,e12,e15,e17,e18,e19,hjt,he,w3]
   all_goals refine qg.intro (by kernel_rfl) ?_
   all_goals simp[go_sem,yb,e2',e3,e7,e8,e11,e12,e15,e17,e18,e19,hjt,he,w3]
   all_goals refine⟨hlt',?_⟩
   all_goals exact Keep.mk' ⟨by simp[go_sem,e2'],by simp[go_sem,e3],by simp[go_sem,e7],by simp[go_sem,e8],by simp[go_sem,e11],by simp[go_sem,e12],by simp[go_sem,e15],by simp[go_sem,e17],by rw[hany];simp[go_sem,yb,he],by simp[go_sem]⟩
  .have hge:t=env.length-j:=by omega
   subst hge;rw[zX (by simp)]at e18;rw[show j+(env.length-j)=env.length by omega]at e19;simp[go_sem,e2',e3,e7,e8,e11,e12,e15,e17,e18,e19];refine qe.pure hus (.cons (.hf (qH f)) (.cons (.hf (HF.sc _)) .nil)) ?_;have wX:WKs [eTS ts,eMd m,aI k,.lst full (X.map cPm),eNd f] [eTS ts,eMd m,aI k,lPm X,eNd f] := .cons (.hf (zh _)) (.cons (.hf (yB _)) (.cons (.hf (HF.sc _)) (.cons (WK.lst fun r hr c hc=>by
    obtain⟨y,_,rfl⟩:=qq.1 hr;exact wA y c hc) (.cons (.hf (qH _)) .nil))))
   generalize hU:anyN (fun n=>decide (n.name=b.1)) f=U at *
   generalize hH:((env.drop j).any fun e=>decide (e.1=b.1))=H at *
   have fin:(U=false\/H=true)->True:=fun _=>trivial
   by_cases hc:U=false\/H=true
   .rw [<-hsame hc]at e2
    generalize fmV ((den ⟨ts,m⟩ f).F ⟨k,env⟩)=Q at *
    obtain⟨q1,q2⟩:=Q;have hg:(U&&!H)=false:=by rcases hc with h|h<;>rw[h]<;>simp
    cases U<;>cases H
    all_goals try (simp at hg)
    all_goals simp[go_sem,e2',e3,e7,e8,e11,e12,e15,e17,e18,e19]
    all_goals refine qe.pure e1 (wkX ts m k env f) ?_
    all_goals simp[go_sem,e2',e3,e7,e8,e11,e12,e15,e17,e18,e19]
    all_goals refine qe.pure e2 wX ?_
    all_goals simp[go_sem,e2',e3,e7,e8,e11,e12,e15,e17,e18,e19]
    all_goals exact .hf _ (HF.sc _)
   .have h1:U=true:=by cases U<;>simp at hc⊢
    have h2:H=false:=by cases H<;>simp at hc⊢
    subst h1;subst h2;simp[go_sem,e2',e3,e7,e8,e11,e12,e15,e17,e18,e19];exact .hf _ (HF.sc _)
end FL
namespace ZEvalBindings
open Go.EvW DL P1 Y1 YF E3 Go.RowKit Go.ChangeShapes Go.WideShapes
theorem law(x0:TS)(x1:Md)(x2:Int)(x3:List (ByteArray×Int))(x4:Nd)(x5:ByteArray×Int)(x6:Int)(h0:DT.okTA x0)(h1:True)(h2:DT.okI x2)(h3:x3.length<=140737488351232)(h4:True)(h5:True)(h6:(0<=x6/\x6<=255)):qj qc 8 [eTS x0,eMd x1,aI x2,lPm x3,eNd x4,.agg (cPm x5),.sc (.int .u8 x6)] (aB true):=
 FL.qjE x0 (fun x hx=>zz (h0.so x hx) (jg rfl)) x1 x2 x3 x4 x5 x6 h6
set_option maxRecDepth 100000 in
theorem lifted(os:Os)(started:os.Started)(H:Type)(enc:TypeId×Value->H) :
  ReturnsInHanded {} checked os 8 .any (fun w args=>(Rows.evalBindingsSpec.pre enc qc f8 [] false w args/\laidMetH qc tabL w)/\sizedMet enc qc f8 (OpenSpec.ofChange Rows.evalBindingsSpec) false w args) (Rows.evalBindingsSpec.post enc qc f8 false true false false):=by
 refine returnsInHanded_of_change_and (C:=checked) (X:=fun w _=>laidMetH qc tabL w) (fun _ _ _ hh h=>h.of_heap hh) own started (by kernel_rfl) func8
  (ChangeSpec.witness_shaped (enc:=enc) (C:=checked) (os:=os) (X:=fun w _=>laidMetH qc tabL w) false (World.doorLaid qc 4000 os) #[.agg #[.slice none 0 0,.slice none 0 0,.slice none 0 0,.slice none 0 0],.agg #[.slice none 0 0,.int .i64 0,.slice none 0 0,.int .i64 0],.int .i64 0,.slice none 0 0,.agg #[.int .i64 0,.string ⟨#[]⟩,.int .i64 0,.slice none 0 0,.int .i64 0],.agg #[.string ⟨#[]⟩,.int .i64 0],.int .u8 0] 8 rfl (World.shaped_of_RefB (by kernel_rfl) (by kernel_rfl)) (by kernel_rfl) (by kernel_rfl) (by kernel_rfl) (Xb os _)) ?_
 intro W base args ds gs before hval hW _ hwt hL _;exact WH (ts:=[27,33,3,34,37,68,5]) (tb:=4) (by kernel_rfl) (.cons DT.WJ (.cons DM.Xc (.cons DM.aInt (.cons DM.Xd (.cons DT.Zy (.cons DM.aBind (.cons DT.aU8 .nil))))))) rfl
  (fun H ds h=>by match ds,h with | [_,_,_,_,_,_,_],h10=>rfl) (by kernel_rfl) DT.Vq laid (by kernel_rfl) (fun a h=>law a.1 a.2.1 a.2.2.1 a.2.2.2.1 a.2.2.2.2.1 a.2.2.2.2.2.1 a.2.2.2.2.2.2.1 h.1 h.2.1 h.2.2.1 h.2.2.2.1 h.2.2.2.2.1 h.2.2.2.2.2.1 h.2.2.2.2.2.2.1) H enc W base args ds gs before hval hW (by
   obtain⟨p,q,hA,hV,_⟩:=hW;obtain⟨rfl,_⟩:=trodVars_none hV;have hwt':(DataW.weightsEach qc ([27,33,3,34,37,68,5]++[]) (ds++[])).all (·<=reachBytes)=true:=hwt;rw[zl,zl]at hwt';exact hwt') (Xa hL)
end ZEvalBindings
namespace ZFEvalBindings
open Go.RowKit Go.ChangeShapes Go.WideShapes
theorem c0:(Rows.evalBindingsRow.wf (OpenSpec.ofChange Rows.evalBindingsSpec))=true:=by kernel_rfl
theorem c1:(laidOutB checked.prog)=true:=by kernel_rfl
theorem c2:(mapsRowed checked.prog)=true:=by kernel_rfl
theorem c3:(f8.params.all (checked.prog.readableRec ·))=true:=by kernel_rfl
theorem c4:(namedTie checked.prog Rows.evalBindingsRow.named Rows.evalBindingsSpec.vars)=true:=by kernel_rfl
theorem c5:((Rows.evalBindingsRow.stops == []))=true:=by kernel_rfl
theorem c6:((checked.prog.stops == []))=true:=by kernel_rfl
theorem c7:((Rows.evalBindingsRow.knobs == []))=true:=by kernel_rfl
theorem c8:((checked.prog.stopKnobs == []))=true:=by kernel_rfl
theorem c9:((Rows.evalBindingsRow.inPlace == checked.prog.inPlace 8))=true:=by kernel_rfl
theorem c10:((Rows.evalBindingsRow.unfollowed == checked.prog.unfollowed 8))=true:=by kernel_rfl
theorem c11:((Rows.evalBindingsRow.recurses == checked.prog.recurses 8))=true:=by kernel_rfl
theorem c12:((Rows.evalBindingsRow.named == checked.prog.varsNamed 8))=true:=by kernel_rfl
theorem c13:((Rows.evalBindingsRow.maps == (f8.params.toList++Rows.evalBindingsSpec.plain.varTypes checked.prog).any (checked.prog.mapsRec ·)))=true:=by kernel_rfl
theorem c14:((Rows.evalBindingsRow.ifaces == (f8.params.toList++Rows.evalBindingsSpec.plain.varTypes checked.prog).any (checked.prog.ifacesRec ·)))=true:=by kernel_rfl
theorem c15:((Rows.evalBindingsRow.mapsOut == checked.prog.mapsAmong f8.resultTypes.toList))=true:=by kernel_rfl
theorem c16:((Rows.evalBindingsRow.loops == (f8.params.toList++Rows.evalBindingsSpec.plain.varTypes checked.prog).any (checked.prog.loopsFrom ·)))=true:=by kernel_rfl
theorem c17:((Rows.evalBindingsRow.wideKeys == (f8.params.toList++Rows.evalBindingsSpec.plain.varTypes checked.prog++f8.resultTypes.toList).any (checked.prog.wideKeysFrom ·)))=true:=by kernel_rfl
theorem c18:(Rows.evalBindingsSpec.vars.all (checked.prog.varReadable ·))=true:=by kernel_rfl
theorem c19:(f8.resultTypes.all (fun t=>checked.prog.readableRec t&&decide (t<checked.prog.types.size)))=true:=by kernel_rfl
theorem c20:((Rows.evalBindingsRow.ifacesOut == f8.resultTypes.toList.any (checked.prog.ifacesRec ·)))=true:=by kernel_rfl
theorem c21:((Rows.evalBindingsRow.loopsOut == f8.resultTypes.toList.any (checked.prog.loopsFrom ·)))=true:=by kernel_rfl
theorem c22:((Rows.evalBindingsRow.plainKeys == checked.prog.plainKeys))=true:=by kernel_rfl
theorem c23:(Rows.evalBindingsRow.shortTexts.isNone)=true:=by kernel_rfl
theorem c24:(checked.prog.stopsHeard)=true:=by kernel_rfl
theorem c25:(checked.prog.mayEnter)=true:=by kernel_rfl
theorem c26:((Rows.evalBindingsRow.lifted == checked.prog.liftsFinal))=true:=by kernel_rfl
theorem c27:((checked.prog.make == some Rows.evalBindingsRow.make))=true:=by kernel_rfl
theorem c28:((Rows.evalBindingsRow.kinds == (if Rows.evalBindingsRow.domain.isEmpty then [] else f8.params.toList.map fun t=>match checked.prog.underlying t with|some (.int k)=>some k|_=>none)))=true:=by kernel_rfl
theorem c29:((Rows.evalBindingsRow.pinned == Rows.evalBindingsRow.pinnedBy))=true:=by kernel_rfl
theorem c30:((Rows.evalBindingsRow.veiled == (f8.params.toList++Rows.evalBindingsSpec.plain.varTypes checked.prog++f8.resultTypes.toList).any (checked.prog.veiledRec ·)))=true:=by kernel_rfl
theorem c31:(Rows.evalBindingsRow.veiledFits checked.prog f8.params.toList (f8.params.toList++Rows.evalBindingsSpec.plain.varTypes checked.prog++f8.resultTypes.toList))=true:=by kernel_rfl
end ZFEvalBindings
namespace ZEvalBindings
open Go.RowKit Go.ChangeShapes Go.WideShapes
theorem qx{a b:Bool}(ha:a=true)(hb:b=true):(a&&b)=true:=by rw[ha,hb];rfl
set_option maxRecDepth 100000 in
theorem closed:joinedFacts checked.prog 8 f8 Rows.evalBindingsSpec Rows.evalBindingsRow=true:=by
 unfold joinedFacts;exact qx (qx (qx (qx (qx (qx (qx (qx (qx (qx (qx (qx (qx (qx (qx (qx (qx (qx (qx (qx (qx (qx (qx (qx (qx (qx (qx (qx (qx (qx (qx ZFEvalBindings.c0 ZFEvalBindings.c1) ZFEvalBindings.c2) ZFEvalBindings.c3) ZFEvalBindings.c4) ZFEvalBindings.c5) ZFEvalBindings.c6) ZFEvalBindings.c7) ZFEvalBindings.c8) ZFEvalBindings.c9) ZFEvalBindings.c10) ZFEvalBindings.c11) ZFEvalBindings.c12) ZFEvalBindings.c13) ZFEvalBindings.c14) ZFEvalBindings.c15) ZFEvalBindings.c16) ZFEvalBindings.c17) ZFEvalBindings.c18) ZFEvalBindings.c19) ZFEvalBindings.c20) ZFEvalBindings.c21) ZFEvalBindings.c22) ZFEvalBindings.c23) ZFEvalBindings.c24) ZFEvalBindings.c25) ZFEvalBindings.c26) ZFEvalBindings.c27) ZFEvalBindings.c28) ZFEvalBindings.c29) ZFEvalBindings.c30) ZFEvalBindings.c31
theorem said:Rows.EvalBindingsSaid:=
 OpenClaim.holds_of_wide 8 f8 rfl rfl rfl rfl rfl rfl rfl ⟨rfl,rfl,rfl,rfl,rfl⟩ rfl rfl rfl rfl rfl (by kernel_rfl) func8 closed
  (of_decide_eq_true (by kernel_rfl)) (by unfold Func.isWrapper;first | (rw[if_pos (by decide +kernel)];kernel_rfl) | (rw[if_neg (by decide +kernel)];exact⟨rfl,rfl⟩))
  (fun os started H enc _=>lifted os started H enc)
end ZEvalBindings
namespace FM
open Y1 Y16 P1 P2 YF E2 E3 E5 EA Q4 F1 FC FD FE FF FG FI FJ FK F4 EO EP EK
theorem Xh:∀(l:List Int) (vs:List Bool),vs.length=l.length->(vs.all id=decide ((EK.pick l vs).length=l.length))/\(EK.pick l vs).length<=l.length/\(vs.any id=decide (0<(EK.pick l vs).length))
 | [],[],_=>⟨rfl,by simp[EK.pick],rfl⟩
 |a :: l,b :: vs,h=>by
  obtain⟨h1,h2,h3⟩:=Xh l vs (by simpa using h);cases b with
  |true =>
   have e:EK.pick (a :: l) (true :: vs)=a :: EK.pick l vs:=rfl;rw[e];refine⟨?_,by simp only[zO];omega,by simp⟩;simp only[List.all_cons,id,Bool.true_and,zO,Nat.add_right_cancel_iff];exact h1
  |false =>
   have e:EK.pick (a :: l) (false :: vs)=EK.pick l vs:=rfl;rw[e];refine⟨?_,by simp only[zO];omega,by simp only[List.any_cons,id,Bool.false_or];exact h3⟩;simp only[List.all_cons,id,Bool.false_and,zO];rw[decide_eq_false (by omega)]
 | [],_ :: _,h=>by simp at h
 |_ :: _,[],h=>by simp at h
def WM(mu:Mu)(r T:Ev.Rl)(l:List Int):Prop:=∃ av,mu[0]?=some (.arr (cRel r))/\mu[1]?=some (.arr (cRel T))/\mu[2]?=some (.arr [aI 1,av])/\OwnI mu av l/\qt av≠some 0/\qt av≠some 1/\qt av≠some 2
theorem WM.step{mu mu':Mu}{r T:Ev.Rl}{av av':AV}{l:List Int}(h0:mu[0]?=some (.arr (cRel r)))(h1:mu[1]?=some (.arr (cRel T)))(h2:mu[2]?=some (.arr [aI 1,av]))(n0:qt av≠some 0)(n1:qt av≠some 1)(n2:qt av≠some 2)(ho:OwnI mu' av' l)
  (hs:∀ i,i<mu.length->qt av≠some i->mu'[i]?=mu[i]?) (hl:mu.length<=mu'.length) (hb:∀ b,qt av'=some b->b=mu.length):mu'[2]?=some (.arr [aI 1,av])/\WM (mu'.set 2 (.arr [aI 1,av'])) r T l:=by
 have l2:2<mu.length:=(qk.1 h2).1;have m0:qt av'≠some 0:=fun e=>by have:=hb 0 e;omega
 have m1:qt av'≠some 1:=fun e=>by have:=hb 1 e;omega
 have m2:qt av'≠some 2:=fun e=>by have:=hb 2 e;omega
 refine⟨by rw[hs 2 l2 n2];exact h2,av',by rw[qK (by omega),hs 0 (by omega) n0];exact h0,by rw[qK (by omega),hs 1 (by omega) n1];exact h1,by rw[List.getElem?_set_self (by omega)],ho.same fun b hb'=>?_,m0,m1,m2⟩;rw[qK (fun e=>m2 (by rw[e];exact hb'))]
theorem qjF(l:List Int)(vs:List Bool)(a:Int)(b:Bool)(h:l.length=vs.length):EK.pick (l++[a]) (vs++[b])=EK.pick l vs++(if b=true then [a] else []):=by
 unfold EK.pick;rw[List.zip_append h,List.filter_append,List.map_append];cases b<;>rfl
theorem qjG(ts:TS)(hs:bigS ts)(m:Md)(s:Int)(env:List (ByteArray×Int))(x:ByteArray)(d f:Nd):qj qc 6 [eTS ts,eMd m,aI s,lPm env,aS x,eNd d,eNd f] (aB true):=by
 have hfit:=VE hs m s env;refine qSQ call6 func6 rfl {} ?_;simp[go_sem];refine qe.pure W7 .nil ?_;simp[go_sem]
 first|refine qe.pure hfit (.cons (.hf (zh ts)) (.cons (.hf (yB m)) (.cons (.hf (HF.sc _)) (.cons (.hf (yJ env)) .nil)))) ?_ | (refine qg.intro (by kernel_rfl) ?_;simp[go_sem];refine qe.pure hfit (.cons (.hf (zh ts)) (.cons (.hf (yB m)) (.cons (.hf (HF.sc _)) (.cons (.hf (yJ env)) .nil)))) ?_)
 cases hF:fitB ts m s env (uw ts) with
 |false =>
  simp[go_sem];exact .hf _ (HF.sc _)
 |true =>
  obtain⟨k,rfl,F⟩:=VF hs hF;have hel:=F.el;by_cases c4:env.length=8
  .have c4':(env.length:Int)=8:=by omega
   simp[go_sem,c4,c4'];exact .hf _ (HF.sc _)
  have c4':¬(env.length:Int)=8:=by omega
  simp[go_sem,c4,c4'];refine qe.pure (vX 45 x d f) (wB 45 x d f) ?_;simp[go_sem];refine qe.pure (nG m F.ma.gsc (by have:=F.st;omega) (nb 45 x d f)) (wkS m _) ?_;by_cases c1:smB m (nb 45 x d f)=true
  case neg =>
   rw[Bool.eq_false_iff.2 c1];simp[go_sem];exact .hf _ (HF.sc _)
  rw[c1];have hv:=VG c1;have wb:=jp hv;have hsh:some [101,102]=some [kd d.op,kd f.op]:=wb.shape;simp only[Option.some.injEq,List.cons.injEq,and_true]at hsh;obtain⟨kd1,kd2⟩:=hsh;have db:=vU hv;rw[dn2]at db;have gd:OkG 100 d:=⟨wb.kid (by simp[Nd.kids]),by omega⟩;have gf:OkG 100 f:=⟨wb.kid (by simp[Nd.kids]),by omega⟩;have g45:OkG 100 (nb 45 x d f):=⟨wb,by rw[dn2];omega⟩;have g46:OkG 100 (nb 46 x d f):=⟨wf2 gd.w gf.w (by rw[<-kd1,<-kd2];decide) (by decide) _,by rw[dn2];omega⟩;have g15:OkG 100 (nb 15 x d f):=⟨wf2 gd.w gf.w (by rw[<-kd1,<-kd2];decide) (by decide) _,by rw[dn2];omega⟩;have e1:=VI F gd;have e2:=ZI F g45;have e3:=ZI F g46;have e4:=VI F g15;simp[go_sem]
  first|refine qe.pure e1 (wkX ts m k env d) ?_ | (refine qg.intro (by kernel_rfl) ?_;simp[go_sem];refine qe.pure e1 (wkX ts m k env d) ?_)
  simp[go_sem]
  first|refine qe.pure (vX 45 x d f) (wB 45 x d f) ?_ | (refine qg.intro (by kernel_rfl) ?_;simp[go_sem];refine qe.pure (vX 45 x d f) (wB 45 x d f) ?_)
  simp[go_sem];refine qe.pure e2 (wkX ts m k env _) ?_;simp[go_sem]
  first|refine qe.pure (vX 46 x d f) (wB 46 x d f) ?_ | (refine qg.intro (by kernel_rfl) ?_;simp[go_sem];refine qe.pure (vX 46 x d f) (wB 46 x d f) ?_)
  simp[go_sem];refine qe.pure e3 (wkX ts m k env _) ?_;simp[go_sem]
  first|refine qe.pure (vX 15 x d f) (wB 15 x d f) ?_ | (refine qg.intro (by kernel_rfl) ?_;simp[go_sem];refine qe.pure (vX 15 x d f) (wB 15 x d f) ?_)
  simp[go_sem];refine qe.pure e4 (wkX ts m k env _) ?_;cases hD:(den ⟨ts,m⟩ d).E ⟨k,env⟩ with
  |error e =>
   have I:=qe5 (nm:=x) (f:=f) hD;rw[I.all,I.some,I.set];have he:¬e=0:=(VH ⟨ts,m⟩ _ d (qs _)).E _ e hD;simp[go_sem,fmV,reV,he];exact .hf _ (HF.sc _)
  |ok r =>
   by_cases h1:r.ar=1
   case neg =>
    have I:=qe6 (nm:=x) (f:=f) hD h1;rw[I.all,I.some,I.set];simp[go_sem,fmV,reV,h1];exact .hf _ (HF.sc _)
   obtain⟨A,S,T,G,q1,q2,q3,hV⟩:∃(A S:Bool) (T:Ev.Rl) (G:Int),fmV ((den ⟨ts,m⟩ (nb 45 x d f)).F ⟨k,env⟩)=(A,G)/\fmV ((den ⟨ts,m⟩ (nb 46 x d f)).F ⟨k,env⟩)=(S,G)/\reV ((den ⟨ts,m⟩ (nb 15 x d f)).E ⟨k,env⟩)=(T,G) /\
     ((∃ e,valX ⟨ts,m⟩ ⟨k,env⟩ x f r.ts = .error e/\G=e)\/∃ vs,valX ⟨ts,m⟩ ⟨k,env⟩ x f r.ts = .ok vs/\G=0/\A=vs.all id/\S=vs.any id/\T=⟨1,EK.pick r.ts vs⟩):=by
    cases hv:valX ⟨ts,m⟩ ⟨k,env⟩ x f r.ts with
    |error e =>
     have I:=qe7 hD h1 hv;rw[I.all,I.some,I.set];exact⟨_,_,_,_,rfl,rfl,rfl,.inl ⟨e,rfl,rfl⟩⟩
    |ok vs =>
     have I:=qe8 hD h1 hv;rw[I.all,I.some,I.set];exact⟨_,_,_,_,rfl,rfl,rfl,.inr ⟨vs,rfl,rfl,rfl,rfl,rfl⟩⟩
   have gr:=Vb F.ma.toOkM _ d (qs _) gd.w _ r F.p hD;have lr:=gr.len F.ma.n0 (by have:=F.ma.n12;omega);rw[q1,q2,q3];simp[go_sem,reV,eq_true h1];generalize hg:(fun a=>(den ⟨ts,m⟩ f).F ⟨k,env++[(x,a)]⟩)=g at *
   have hvx:valX ⟨ts,m⟩ ⟨k,env⟩ x f r.ts=mapX g r.ts:=by rw[<-hg];rfl
   rw[hvx]at hV;refine qn.upK r.ts.length (fun j st=>∃ acc:List Bool,mapX g (r.ts.take j) = .ok acc/\acc.length=j/\st.tm 2=aI k/\st.tm 3=lPm env/\st.tm 4=aS x/\st.tm 7 = .ip (cTS ts)/\st.tm 8 = .ip (cMd m)/\st.tm 13 = .ip (cNd f)/\st.tm 15=aB true/\st.tm 16 = .ptr 0 0/\st.tm 18=aB A/\st.tm 19=aI G/\st.tm 20=aB S/\st.tm 22 = .ptr 1 0/\st.tm 24 = .ptr 2 0/\st.tm 25=aI j/\WM st.mu r T (EK.pick (r.ts.take j) acc)) ?_ ?_
   .exact ⟨[],rfl,rfl,by simp[go_sem],by simp[go_sem],by simp[go_sem],by simp[go_sem],by simp[go_sem],by simp[go_sem],by simp[go_sem],by simp[go_sem],by simp[go_sem],by simp[go_sem],by simp[go_sem],by simp[go_sem],by simp[go_sem],by simp[go_sem],.lst true [],by simp[go_sem],by simp[go_sem],by simp[go_sem],.inl ⟨rfl,rfl⟩,by simp[qt],by simp[qt],by simp[qt]⟩
   rintro j st hj ⟨acc,ha,hal,e2',e3',e4',e7,e8,e13,e15,e16,e18,e19,e20,e22,e24,e25,av,g0,g1,g2,ho,n0,n1,n2⟩;have l0:0<st.mu.length:=(qk.1 g0).1;have l1:1<st.mu.length:=(qk.1 g1).1;have l2:2<st.mu.length:=(qk.1 g2).1;by_cases hlt:j<r.ts.length
   .have w1:ql.wrap ((j:Int)+1)=(j:Int)+1:=qi (by omega) (by omega)
    have hv:=gr.val _ (qw hlt);rw[h1,vB]at hv;have F1:FitP ts m k (env++[(x,r.ts[j])]):=⟨F.ma,F.p.bind hv,by simp;omega,F.st⟩;have ef1:=ZI F1 gf;have hsp:=u4 (l2:=r.ts.drop j) ha;rw[vh,List.drop_eq_getElem_cons hlt,mapX]at hsp;have hgj:g r.ts[j]=(den ⟨ts,m⟩ f).F ⟨k,env++[(x,r.ts[j])]⟩:=by rw[<-hg]
    simp[go_sem,e2',e3',e4',e7,e8,e13,e15,e16,e18,e19,e20,e22,e24,e25,g0,hlt];refine qF.ownB (e:=68) (sz:=2) (bt:=24) (zv := .agg [aS ⟨#[]⟩,aI 0]) (xs:=([]:List (ByteArray×Int)).map cPm) (ys:=env.map cPm) (by simp[go_sem]) (by simp[go_sem]) (by simp[go_sem]) rfl rfl (by omega) (by omega) (.inl rfl) (by simp[qI]) (F5.jd []) (F5.jd env) (by simp;omega) ?_;intro av1 mu1 ho1 hs1 hb1 hl1;have s1:∀ i,i<st.mu.length->mu1[i]?=st.mu[i]?:=fun i hi=>hs1 i hi (by simp[qt])
    have g0':=(s1 0 l0).trans g0;simp[go_sem,Own.one ho1,e2',e3',e4',e7,e8,e13,e15,e16,e18,e19,e20,e22,e24,e25,g0',hlt];refine qF.ownB (e:=68) (sz:=2) (bt:=24) (zv := .agg [aS ⟨#[]⟩,aI 0]) (xs:=env.map cPm) (ys:=[cPm (x,r.ts[j])]) (by simp[go_sem]) (by simp[go_sem]) (by simp[go_sem]) rfl rfl (by omega) (by omega) (by simpa using ho1) (by simp[qI]) (F5.jd env) (F5.jd [(x,r.ts[j])]) (by simp;omega) ?_;intro av2 mu2 ho2 hs2 hb2 hl2;have s2:∀ i,i<st.mu.length->mu2[i]?=st.mu[i]?:=fun i hi=>(hs2 i (by omega) (fun e=>by have:=hb1 i e;omega)).trans (s1 i hi)
    have G0:=(s2 0 l0).trans g0;have G1:=(s2 1 l1).trans g1;have G2:=(s2 2 l2).trans g2;have hO:OwnI mu2 av (EK.pick (r.ts.take j) acc):=ho.same fun b hb=>s2 b (OwnV.lt ho.v hb)
    have hoe:Own mu2 2 av2 ((env++[(x,r.ts[j])]).map cPm):=by simpa using ho2
    have hrd:Rd mu2 av2 (lPm (env++[(x,r.ts[j])])):=hoe.rd (F5.jd _).ok fun r hr c hc=>by
     obtain⟨q,_,rfl⟩:=qq.1 hr;exact wA q c hc
    simp[go_sem,Own.one ho2,e2',e3',e4',e7,e8,e13,e15,e16,e18,e19,e20,e22,e24,e25];refine qe.lend ef1 ⟨.hf _ (zh _),.hf _ (yB _),.hf _ (HF.sc _),hrd,.hf _ (qH _),trivial⟩ (FL.tup fun c hc=>by simp at hc;rcases hc with rfl|rfl<;>exact FL.sc _) ?_;cases ef:(den ⟨ts,m⟩ f).F ⟨k,env++[(x,r.ts[j])]⟩ with
    |error e =>
     have he:¬e=0:=(VH ⟨ts,m⟩ _ f (qs _)).F _ e ef;rw[hgj,ef,q9,q9]at hsp;have hG:G=e:=by
      rcases hV with ⟨e',h2,h3⟩|⟨vs,h2,_⟩
      .rw [hsp]at h2;cases h2;exact h3
      .rw [hsp]at h2;cases h2
     simp[go_sem,fmV,e15,e19,he,hG];exact .hf _ (HF.sc _)
    |ok v =>
     have hnext:mapX g (r.ts.take (j+1)) = .ok (acc++[v]):=by
      rw[ya hlt,u4 ha,mapX,hgj,ef];rfl
     have hpk:=qjF (r.ts.take j) acc r.ts[j] v (by simp;omega);rw[<-ya hlt]at hpk;have hpl:(EK.pick (r.ts.take j) acc).length<=8000:=by
      have:=(Xh (r.ts.take j) acc (by simp;omega)).2.1;simp at this;omega
     cases v with
     |true =>
      simp[go_sem,fmV,e2',e3',e4',e7,e8,e13,e15,e16,e18,e19,e20,e22,e24,e25,G0,G2,hlt];refine qg.seg [0,1,2,3,4,5,6,7,9,8,10] [(0,0,[]),(1,0,[]),(2,0,[]),(3,0,[]),(4,0,[]),(5,0,[]),(6,0,[]),(7,0,[]),(9,0,[]),(8,1,[]),(10,1,[])] (by kernel_rfl) (by kernel_rfl) (by simp[go_sem]) ?_;simp[go_sem,fmV,e2',e3',e4',e7,e8,e13,e15,e16,e18,e19,e20,e22,e24,e25,G0,G2,hlt];refine qF.ownV1 (e:=3) (bt:=8) (z:=0) (by simp[go_sem]) (by simp[go_sem]) (by simp[go_sem]) (by omega) hO.v (by omega) ?_;intro av' mu' ho' hs' hl' hb';obtain⟨k1,k2⟩:=WM.step G0 G1 G2 n0 n1 n2 ho' hs' hl' hb';simp[go_sem,fmV,e2',e3',e4',e7,e8,e13,e15,e16,e18,e19,e20,e22,e24,e25,k1,ho'.v.one,ho'.v.cells,w1];refine⟨hlt,Keep.mk' ⟨acc++[true],hnext,by simp[hal],by simp[go_sem,e2'],by simp[go_sem,e3'],by simp[go_sem,e4'],by simp[go_sem,e7],by simp[go_sem,e8],by simp[go_sem,e13],by simp[go_sem,e15],by simp[go_sem,e16],by simp[go_sem,e18],by simp[go_sem,e19],by simp[go_sem,e20],by simp[go_sem,e22],by simp[go_sem,e24],by simp[go_sem],?_⟩⟩;rw[hpk,if_pos rfl];exact k2
     |false =>
      simp[go_sem,fmV,e2',e3',e4',e7,e8,e13,e15,e16,e18,e19,e20,e22,e24,e25,w1];refine⟨hlt,Keep.mk' ⟨acc++[false],hnext,by simp[hal],by simp[go_sem,e2'],by simp[go_sem,e3'],by simp[go_sem,e4'],by simp[go_sem,e7],by simp[go_sem,e8],by simp[go_sem,e13],by simp[go_sem,e15],by simp[go_sem,e16],by simp[go_sem,e18],by simp[go_sem,e19],by simp[go_sem,e20],by simp[go_sem,e22],by simp[go_sem,e24],by simp[go_sem],av,G0,G1,G2,?_,n0,n1,n2⟩⟩;rw[hpk,if_neg (by simp),zl];exact hO
   .have hge:j=r.ts.length:=by omega
    rw[hge,List.take_length]at ha ho;obtain⟨vs,hvs,rfl,rfl,rfl,rfl⟩:∃ vs,mapX g r.ts = .ok vs/\G=0/\A=vs.all id/\S=vs.any id/\T=⟨1,EK.pick r.ts vs⟩:=by
     rcases hV with ⟨e,h2,_⟩|h2
     .rw [ha]at h2;cases h2
     .exact h2
    rw[ha]at hvs;cases hvs;obtain⟨a1,a2,a3⟩:=Xh r.ts acc (by omega);rw[a1]at e18;rw[a3]at e20;generalize EK.pick r.ts acc=W at *
    simp[go_sem,e2',e3',e4',e7,e8,e13,e15,e16,e18,e19,e20,e22,e24,e25,g0,g2,hge];refine OptK.intro (aI W.length) (by rcases ho with ⟨h,h'⟩|⟨b,h,_⟩<;>rw[h]<;>simp[*]) ?_;simp[go_sem,e2',e3',e4',e7,e8,e13,e15,e16,e18,e19,e20,e22,e24,e25,g0,g2,hge];refine OptK.intro (aI W.length) (by rcases ho with ⟨h,h'⟩|⟨b,h,_⟩<;>rw[h]<;>simp[*]) ?_;simp[go_sem,e2',e3',e4',e7,e8,e13,e15,e16,e18,e19,e20,e22,e24,e25,g0,g1,g2,hge,ho.v.one,ho.v.cells];refine qe.lend (eqS ⟨1,W⟩ (by show W.length<=_;omega)) ⟨.hf _ (qR ⟨1,W⟩),EQ.OwnV.rdRel ho.v,trivial⟩ (FL.sc _) ?_;simp[go_sem];exact .hf _ (HF.sc _)
end FM
namespace ZEvalInstances
open Go.EvW DL P1 Y1 YF E3 Go.RowKit Go.ChangeShapes Go.WideShapes
theorem law(x0:TS)(x1:Md)(x2:Int)(x3:List (ByteArray×Int))(x4:ByteArray)(x5:Nd)(x6:Nd)(h0:DT.okTA x0)(h1:True)(h2:DT.okI x2)(h3:x3.length<=140737488351232)(h4:True)(h5:True)(h6:True):qj qc 6 [eTS x0,eMd x1,aI x2,lPm x3,aS x4,eNd x5,eNd x6] (aB true):=
 FM.qjG x0 (fun x hx=>zz (h0.so x hx) (jg rfl)) x1 x2 x3 x4 x5 x6
set_option maxRecDepth 100000 in
theorem lifted(os:Os)(started:os.Started)(H:Type)(enc:TypeId×Value->H) :
  ReturnsInHanded {} checked os 6 .any (fun w args=>(Rows.evalInstancesSpec.pre enc qc f6 [] false w args/\laidMetH qc tabL w)/\sizedMet enc qc f6 (OpenSpec.ofChange Rows.evalInstancesSpec) false w args) (Rows.evalInstancesSpec.post enc qc f6 false true false false):=by
 refine returnsInHanded_of_change_and (C:=checked) (X:=fun w _=>laidMetH qc tabL w) (fun _ _ _ hh h=>h.of_heap hh) own started (by kernel_rfl) func6
  (ChangeSpec.witness_shaped (enc:=enc) (C:=checked) (os:=os) (X:=fun w _=>laidMetH qc tabL w) false (World.doorLaid qc 4000 os) #[.agg #[.slice none 0 0,.slice none 0 0,.slice none 0 0,.slice none 0 0],.agg #[.slice none 0 0,.int .i64 0,.slice none 0 0,.int .i64 0],.int .i64 0,.slice none 0 0,.string ⟨#[]⟩,.agg #[.int .i64 0,.string ⟨#[]⟩,.int .i64 0,.slice none 0 0,.int .i64 0],.agg #[.int .i64 0,.string ⟨#[]⟩,.int .i64 0,.slice none 0 0,.int .i64 0]] 8 rfl (World.shaped_of_RefB (by kernel_rfl) (by kernel_rfl)) (by kernel_rfl) (by kernel_rfl) (by kernel_rfl) (Xb os _)) ?_
 intro W base args ds gs before hval hW _ hwt hL _;exact WH (ts:=[27,33,3,34,9,37,37]) (tb:=4) (by kernel_rfl) (.cons DT.WJ (.cons DM.Xc (.cons DM.aInt (.cons DM.Xd (.cons DM.aStr (.cons DT.Zy (.cons DT.Zy .nil))))))) rfl
  (fun H ds h=>by match ds,h with | [_,_,_,_,_,_,_],h10=>rfl) (by kernel_rfl) DT.Vq laid (by kernel_rfl) (fun a h=>law a.1 a.2.1 a.2.2.1 a.2.2.2.1 a.2.2.2.2.1 a.2.2.2.2.2.1 a.2.2.2.2.2.2.1 h.1 h.2.1 h.2.2.1 h.2.2.2.1 h.2.2.2.2.1 h.2.2.2.2.2.1 h.2.2.2.2.2.2.1) H enc W base args ds gs before hval hW (by
   obtain⟨p,q,hA,hV,_⟩:=hW;obtain⟨rfl,_⟩:=trodVars_none hV;have hwt':(DataW.weightsEach qc ([27,33,3,34,9,37,37]++[]) (ds++[])).all (·<=reachBytes)=true:=hwt;rw[zl,zl]at hwt';exact hwt') (Xa hL)
end ZEvalInstances
namespace ZFEvalInstances
open Go.RowKit Go.ChangeShapes Go.WideShapes
theorem c0:(Rows.evalInstancesRow.wf (OpenSpec.ofChange Rows.evalInstancesSpec))=true:=by kernel_rfl
theorem c1:(laidOutB checked.prog)=true:=by kernel_rfl
theorem c2:(mapsRowed checked.prog)=true:=by kernel_rfl
theorem c3:(f6.params.all (checked.prog.readableRec ·))=true:=by kernel_rfl
theorem c4:(namedTie checked.prog Rows.evalInstancesRow.named Rows.evalInstancesSpec.vars)=true:=by kernel_rfl
theorem c5:((Rows.evalInstancesRow.stops == []))=true:=by kernel_rfl
theorem c6:((checked.prog.stops == []))=true:=by kernel_rfl
theorem c7:((Rows.evalInstancesRow.knobs == []))=true:=by kernel_rfl
theorem c8:((checked.prog.stopKnobs == []))=true:=by kernel_rfl
theorem c9:((Rows.evalInstancesRow.inPlace == checked.prog.inPlace 6))=true:=by kernel_rfl
theorem c10:((Rows.evalInstancesRow.unfollowed == checked.prog.unfollowed 6))=true:=by kernel_rfl
theorem c11:((Rows.evalInstancesRow.recurses == checked.prog.recurses 6))=true:=by kernel_rfl
theorem c12:((Rows.evalInstancesRow.named == checked.prog.varsNamed 6))=true:=by kernel_rfl
theorem c13:((Rows.evalInstancesRow.maps == (f6.params.toList++Rows.evalInstancesSpec.plain.varTypes checked.prog).any (checked.prog.mapsRec ·)))=true:=by kernel_rfl
theorem c14:((Rows.evalInstancesRow.ifaces == (f6.params.toList++Rows.evalInstancesSpec.plain.varTypes checked.prog).any (checked.prog.ifacesRec ·)))=true:=by kernel_rfl
theorem c15:((Rows.evalInstancesRow.mapsOut == checked.prog.mapsAmong f6.resultTypes.toList))=true:=by kernel_rfl
theorem c16:((Rows.evalInstancesRow.loops == (f6.params.toList++Rows.evalInstancesSpec.plain.varTypes checked.prog).any (checked.prog.loopsFrom ·)))=true:=by kernel_rfl
theorem c17:((Rows.evalInstancesRow.wideKeys == (f6.params.toList++Rows.evalInstancesSpec.plain.varTypes checked.prog++f6.resultTypes.toList).any (checked.prog.wideKeysFrom ·)))=true:=by kernel_rfl
theorem c18:(Rows.evalInstancesSpec.vars.all (checked.prog.varReadable ·))=true:=by kernel_rfl
theorem c19:(f6.resultTypes.all (fun t=>checked.prog.readableRec t&&decide (t<checked.prog.types.size)))=true:=by kernel_rfl
theorem c20:((Rows.evalInstancesRow.ifacesOut == f6.resultTypes.toList.any (checked.prog.ifacesRec ·)))=true:=by kernel_rfl
theorem c21:((Rows.evalInstancesRow.loopsOut == f6.resultTypes.toList.any (checked.prog.loopsFrom ·)))=true:=by kernel_rfl
theorem c22:((Rows.evalInstancesRow.plainKeys == checked.prog.plainKeys))=true:=by kernel_rfl
theorem c23:(Rows.evalInstancesRow.shortTexts.isNone)=true:=by kernel_rfl
theorem c24:(checked.prog.stopsHeard)=true:=by kernel_rfl
theorem c25:(checked.prog.mayEnter)=true:=by kernel_rfl
theorem c26:((Rows.evalInstancesRow.lifted == checked.prog.liftsFinal))=true:=by kernel_rfl
theorem c27:((checked.prog.make == some Rows.evalInstancesRow.make))=true:=by kernel_rfl
theorem c28:((Rows.evalInstancesRow.kinds == (if Rows.evalInstancesRow.domain.isEmpty then [] else f6.params.toList.map fun t=>match checked.prog.underlying t with|some (.int k)=>some k|_=>none)))=true:=by kernel_rfl
theorem c29:((Rows.evalInstancesRow.pinned == Rows.evalInstancesRow.pinnedBy))=true:=by kernel_rfl
theorem c30:((Rows.evalInstancesRow.veiled == (f6.params.toList++Rows.evalInstancesSpec.plain.varTypes checked.prog++f6.resultTypes.toList).any (checked.prog.veiledRec ·)))=true:=by kernel_rfl
theorem c31:(Rows.evalInstancesRow.veiledFits checked.prog f6.params.toList (f6.params.toList++Rows.evalInstancesSpec.plain.varTypes checked.prog++f6.resultTypes.toList))=true:=by kernel_rfl
end ZFEvalInstances
namespace ZEvalInstances
open Go.RowKit Go.ChangeShapes Go.WideShapes
theorem qx{a b:Bool}(ha:a=true)(hb:b=true):(a&&b)=true:=by rw[ha,hb];rfl
set_option maxRecDepth 100000 in
theorem closed:joinedFacts checked.prog 6 f6 Rows.evalInstancesSpec Rows.evalInstancesRow=true:=by
 unfold joinedFacts;exact qx (qx (qx (qx (qx (qx (qx (qx (qx (qx (qx (qx (qx (qx (qx (qx (qx (qx (qx (qx (qx (qx (qx (qx (qx (qx (qx (qx (qx (qx (qx ZFEvalInstances.c0 ZFEvalInstances.c1) ZFEvalInstances.c2) ZFEvalInstances.c3) ZFEvalInstances.c4) ZFEvalInstances.c5) ZFEvalInstances.c6) ZFEvalInstances.c7) ZFEvalInstances.c8) ZFEvalInstances.c9) ZFEvalInstances.c10) ZFEvalInstances.c11) ZFEvalInstances.c12) ZFEvalInstances.c13) ZFEvalInstances.c14) ZFEvalInstances.c15) ZFEvalInstances.c16) ZFEvalInstances.c17) ZFEvalInstances.c18) ZFEvalInstances.c19) ZFEvalInstances.c20) ZFEvalInstances.c21) ZFEvalInstances.c22) ZFEvalInstances.c23) ZFEvalInstances.c24) ZFEvalInstances.c25) ZFEvalInstances.c26) ZFEvalInstances.c27) ZFEvalInstances.c28) ZFEvalInstances.c29) ZFEvalInstances.c30) ZFEvalInstances.c31
theorem said:Rows.EvalInstancesSaid:=
 OpenClaim.holds_of_wide 6 f6 rfl rfl rfl rfl rfl rfl rfl ⟨rfl,rfl,rfl,rfl,rfl⟩ rfl rfl rfl rfl rfl (by kernel_rfl) func6 closed
  (of_decide_eq_true (by kernel_rfl)) (by unfold Func.isWrapper;first | (rw[if_pos (by decide +kernel)];kernel_rfl) | (rw[if_neg (by decide +kernel)];exact⟨rfl,rfl⟩))
  (fun os started H enc _=>lifted os started H enc)
end ZEvalInstances
end Go.Proofs.YtkglmpmlfjogkaaGreatDoor
