/-
  Own library, part 7: an abstract reading of values and a calculus over it; contracts of functions; plain lemmas.
-/
import Derived.Test.YtkglmpmlfjogkaaGreatDoorRows
import Derived.LaidMore
import Derived.MakeChecks
import Derived.WalkKit
import Derived.JoinedCond
import Derived.Test.YtkglmpmlfjogkaaGreatDoorMf
set_option linter.unusedVariables false
set_option linter.unusedSimpArgs false
set_option maxRecDepth 100000
open Go.Proofs.Tryz renaming prog->qd
open Go.IntKind renaming i64->qj
open List renaming getElem?_eq_some_iff->qk,getElem?_append_left->qp,range->qq,mem_map->qs,getElem_mem->qu,getElem?_eq_getElem->qv,all_eq_true->qy,mem_cons->qB,getElem?_append_right->qV,mem_singleton->qW,replicate->qX,getElem?_set_self->zb,drop_eq_getElem_cons->zj,getElem?_map->zk,not_mem_nil->zr,length_append->zt,take_length->zw,append_nil->zx,getD_eq_getElem?_getD->zz,append_assoc->zB,mem_cons_of_mem->zK,drop_length->zL,getElem?_eq_none->zQ,take_of_length_le->zU,mem_cons_self->zZ,length_map->yM,nil_append->yP,ext_getElem?->jj,take_succ_eq_append_getElem->Xq,getElem_append_left->Xr
open Option.some renaming injEq->qn
open Nat renaming le_refl->qr,le_trans->q7
open Bool renaming and_eq_true->qx
open Int renaming mul_le_mul->jp
namespace Go.Proofs.YtkglmpmlfjogkaaGreatDoor
open Go Go.Ev Go.Proofs Tryz
namespace PC
open P1 P2 Y1 Y2 Y10 YZ YA PA Q3 Q4
theorem apK1(ns:Nat)(op n pos:Int)(a:Kd):yf ns op n pos [some a]=if op=2 then .ok (some ⟨n,[]⟩) else if op=3 then .ok (some (zn ns 1)) else if op=4 then .ok (some (zn ns 2)) else
  if op=5 then .ok (some a) else if op=11\/op=12\/op=13 then (if a.ar=2 then .ok (some (binK ns op a)) else .error (42,pos)) else .ok none:=rfl
theorem apK2(ns : Nat)(op n pos : Int)(a b : Kd) : yf ns op n pos [some a, some b] = if op = 2 then .ok (some ⟨n, []⟩) else if op = 3 then .ok (some (zn ns 1)) else if op = 4 then .ok (some (zn ns 2)) else
      if op=6\/op=14\/op=7\/op=8\/op=32\/op=33 then (if a.ar=b.ar then .ok (some (uX op a b)) else .error (42,pos))
      else if op=9 then (if 1<=a.ar+b.ar-2/\a.ar+b.ar-2<=3 then .ok (some (zA a b)) else .error (42,pos))
      else if op=10 then (if a.ar+b.ar<=3 then .ok (some (Qh a b)) else .error (42,pos))
      else .ok none:=rfl
theorem Xd(ts:TS)(i:Nat):∀ m,i<m->m<=ts.preds.length->∀(hi:i<ts.preds.length),(tmsL ts m).getD i false=yh (mkCk ts i) ts.preds[i].body
 | 0,h,_,_=>absurd h (by omega)
 |m+1,h,hm,hi=>by
  have hl:=Qr ts m (by omega);have hmp:m<ts.preds.length:=by omega
  have e:tmsL ts (m+1)=tmsL ts m++[yh (mkCk ts m) ts.preds[m].body]:=by
   show tmsL ts m++(match ts.preds[m]? with|some p=>[yh ⟨ts,m,tmsL ts m⟩ p.body] | none=>[])=_;rw[qv hmp];rfl
  rw[e];by_cases hq:i<m
  .rw [<-Xd ts i m hq (by omega) hi]
   simp only[zz];rw[qp (by omega)]
  .have:i=m:=by omega
   subst this;simp only[zz];rw[qV (by omega),hl];simp
abbrev tkn(es:List (ByteArray×Bool))(nm:ByteArray):Prop:=getK nm es=some true
def vLe(es:List (ByteArray×Bool))(L:Int)(nm:ByteArray):Prop:=∃ j:Nat,(j:Int)<=L/\nm=vN j/\¬tkn es nm/\jQ nm=true
structure qiF (es:List (ByteArray×Bool)) (L:Int) (x:Nd):Prop where
 nc:x.op≠47
 own:ownB x=true
 nm:tkn es x.name\/vLe es L x.name
structure GoodN (es:List (ByteArray×Bool)) (L:Int) (n:Nd):Prop where
 wf:WfN n
 all:∀ x,x∈preN n->qiF es L x
end PC
namespace PG
open Y1 Y2 P1 P2 Y9 YZ
theorem qiG{ns:Nat}{op n pos:Int}{l:List (Option Kd)}{e:Dg}(h:yf ns op n pos l = .error e):40<=e.1:=by
 unfold yf at h
 repeat' split at h
 all_goals first
  | (cases h;done)
  | (cases h;simp)
theorem qiH{c:Ck}{s:Scp}{nm:ByteArray}{pos:Int}{e:Dg}(h:yU c s nm pos = .error e):40<=e.1:=by
 unfold yU at h
 repeat' split at h
 all_goals first
  | (cases h;done)
  | (cases h;simp)
section
variable {c:Ck}
theorem ZJ{inn:Bool}:∀{ks:List Nd} {s:Scp} {e:Dg},(∀ k,k∈ks->∀ s e,exam c s inn k = .error e->40<=e.1)->zo c s inn ks = .error e->40<=e.1
 | [],s,e,_,h=>by simp only[zo]at h;cases h
 |k :: ks,s,e,ih,h=>by
  simp only[zo]at h;split at h
  .rename_i e' hx
   cases h;exact ih k (zZ ..) s _ hx
  .split at h
   .rename_i e' hx
    cases h;exact ZJ (fun k hk=>ih k (zK _ hk)) hx
   .cases h
theorem Vl{pos:Int}:∀{ks:List Nd} {ps:List (ByteArray×Int)} {s:Scp} {e:Dg},(∀ k,k∈ks->∀ s e,exam c s true k = .error e->40<=e.1)->zP c s pos ps ks = .error e->40<=e.1
 | [],ps,s,e,_,h=>by cases ps<;>(simp only[zP]at h;cases h)
 |k :: ks,[],s,e,_,h=>by simp only[zP]at h;cases h
 |k :: ks,p :: ps,s,e,ih,h=>by
  simp only[zP]at h;split at h
  .rename_i e' hx
   cases h;exact ih k (zZ ..) s _ hx
  .cases h;simp
  .split at h
   .split at h
    .exact Vl (fun k hk=>ih k (zK _ hk)) h
    .cases h;simp
   .cases h;simp
theorem qiI{inn:Bool}{nm:ByteArray}{pos:Int}:∀{ks:List Nd} {s:Scp} {e:Dg},(∀ k,k∈ks->∀ s e,exam c s inn k = .error e->40<=e.1)->yG c s inn nm pos ks = .error e->40<=e.1
 | [],s,e,_,h=>by simp only[yG]at h;cases h
 |k :: ks,s,e,ih,h=>by
  simp only[yG]at h;split at h
  .rename_i e' hx
   cases h;exact ih k (zZ ..) s _ hx
  .cases h;simp
  .split at h
   .split at h
    .rename_i e' hx
     cases h;exact ZJ (fun k hk=>ih k (zK _ hk)) hx
    .cases h
   .cases h;simp
theorem Qz(c:Ck):∀(m:Nat) (n:Nd) (s:Scp) (inn:Bool) (e:Dg),szN n<=m->exam c s inn n = .error e->40<=e.1
 | 0,n,_,_,_,hm,_=>by obtain⟨op,nm,i,ks,p⟩:=n;simp[szN]at hm
 |m+1,n,s,inn,e,hm,h=>by
  have ih:∀ inn k,k∈n.kids->∀ s e,exam c s inn k = .error e->40<=e.1:=fun inn k hk s e h=>Qz c m k s inn e (by have:=yi hk;omega) h
  rw[vD]at h;split at h
  .cases h;simp
  split at h
  .exact qiH h
  split at h
  .split at h
   .split at h
    .cases h;simp
    .split at h
     .cases h;simp
     .split at h
      .exact Vl (ih true) h
      .cases h;simp
   .cases h;simp
  split at h
  .exact qiI (ih _) h
  .split at h
   .rename_i e' hx
    cases h;exact ZJ (ih _) hx
   .exact qiG h
end
theorem qiJ{ks:List Nd}{k:Nd}(h:k∈ks):depN k<=yo ks:=by
 induction ks with
 |nil=>simp at h
 |cons a l ih =>
  simp only[yo];rcases qB.1 h with rfl|h
  .omega
  .have:=ih h;omega
theorem qiK(n:Nd):1<=depN n:=by
 rw[ZL];have:∀ ks:List Nd,0<=yo ks:=by
  intro ks;induction ks with
  |nil=>simp[yo]
  |cons a l ih=>simp only[yo];omega
 have:=this n.kids;omega
end PG
namespace QO
open YF Y9 Y10 Y1 Y2 Y3 Y12 Y13 P1 P2 QD QE QF QH QI QJ QL QN PG PC
theorem nu{ts:TS}{n:Nd}{L:List RS}{S S':RS}{b:Bool}(e:eRS S=eRS S')(h:prC ts n L S b):prC ts n L S' b:=by
 unfold prC at h⊢;rw[<-e];exact h
theorem qiL{ts:TS}{n:Nd}{a b:Kd}(ho:n.op=6\/n.op=14\/n.op=7\/n.op=8\/n.op=32\/n.op=33):∃ S,prC ts n [qm a,qm b] S (decide (a.ar=b.ar))/\(a.ar=b.ar->kd n.op=101->S=qm (uX n.op a b)):=by
 have e6:∀ op:Int,op=6\/op=14->uX op a b=kSum a b:=fun op h=>by unfold uX;rw[if_pos h]
 by_cases har:a.ar=b.ar
 .rcases ho with h|h|h|h|h|h
  .exact ⟨_,ap6 ts n _ _ _ h (by have:=y7 (qm a) (qm b);rw[YP har]at this;exact this),fun _ _=>by rw[h,e6 6 (.inl rfl)]⟩
  .exact ⟨_,ap14 ts n _ _ _ h (by have:=y7 (qm a) (qm b);rw[YP har]at this;exact this),fun _ _=>by rw[h,e6 14 (.inr rfl)]⟩
  .exact ⟨_,ap7 ts n _ _ _ h (by have:=Zz (qm a) (qm b);rw[qhT har]at this;exact this),fun _ _=>by rw[h];rfl⟩
  .exact ⟨_,ap8 ts n _ _ h,fun _ _=>by rw[h];rfl⟩
  .exact ⟨_,ap32 ts n _ _ h,fun _ hk=>by rw[h]at hk;exact absurd hk (by decide)⟩
  .exact ⟨_,ap33 ts n _ _ h,fun _ hk=>by rw[h]at hk;exact absurd hk (by decide)⟩
 .rcases ho with h|h|h|h|h|h
  .exact ⟨_,ap6 ts n _ _ _ h (y7 (qm a) (qm b)),fun e=>absurd e har⟩
  .exact ⟨_,ap14 ts n _ _ _ h (y7 (qm a) (qm b)),fun e=>absurd e har⟩
  .exact ⟨_,ap7 ts n _ _ _ h (Zz (qm a) (qm b)),fun e=>absurd e har⟩
  .exact ⟨_,ap8 ts n _ _ h,fun e=>absurd e har⟩
  .exact ⟨_,ap32 ts n _ _ h,fun e=>absurd e har⟩
  .exact ⟨_,ap33 ts n _ _ h,fun e=>absurd e har⟩
theorem qiM{ts:TS}(ok:okTS ts){n:Nd}{a:Kd}(ha:okKd ts.sorts.length a)(ho:n.op=11\/n.op=12\/n.op=13):∃ S,prC ts n [qm a] S (decide (a.ar=2))/\(a.ar=2->S=qm (binK ts.sorts.length n.op a)):=by
 have hns:=ok.ns;by_cases h2:a.ar=2
 .have hc:=JW ha h2 hns
  rcases ho with h|h|h
  .exact ⟨_,ap11 ts n _ _ h (by have:=gQ (qm a);rw[qhZ ha hns h2]at this;exact this),fun _=>by rw[h];rfl⟩
  .exact ⟨_,ap12 ts n _ _ h hc,fun _=>by rw[h];rfl⟩
  .refine ⟨_,ap13 ts ok n _ _ (qm (kSum (kClo a) (zn ts.sorts.length 2))) h hc ?_,fun _=>by rw[h];rfl⟩
   have:=y7 (qm (kClo a)) (qm (zn ts.sorts.length 2));rw[YP (show (kClo a).ar=2 from (Vg ha h2).2)]at this;exact this
 .have har:=ha.ar
  rcases ho with h|h|h
  .exact ⟨_,ap11 ts n _ _ h (gQ (qm a)),fun e=>absurd e h2⟩
  .exact ⟨_,ap12 ts n _ _ h (nr (qm a) har),fun e=>absurd e h2⟩
  .exact ⟨_,ap13 ts ok n _ _ _ h (nr (qm a) har) (y7 _ _),fun e=>absurd e h2⟩
theorem qiN(ts:TS)(ok:okTS ts)(n:Nd)(l:List (Option Kd))(L:List RS)(e1:n.op≠1)(e15:n.op≠15)
  (h1:n.op=5\/n.op=11\/n.op=12\/n.op=13->∃ a,l=[some a]/\L=[qm a]/\okKd ts.sorts.length a)
  (h2:n.op=6\/n.op=14\/n.op=7\/n.op=8\/n.op=32\/n.op=33\/n.op=9\/n.op=10->∃ a b,l=[some a,some b]/\L=[qm a,qm b]/\okKd ts.sorts.length a/\okKd ts.sorts.length b) :
  ∃ S b,prC ts n L S b/\ApE n.op (yf ts.sorts.length n.op n.n n.pos l) S b:=by
 have hns:=ok.ns;by_cases o2:n.op=2
 .refine ⟨qm ⟨n.n,[]⟩,true,nu (nn n.n) (ap2 ts n L o2),?_⟩
  unfold yf;rw[if_pos o2];exact⟨rfl,fun _=>⟨_,rfl,rfl⟩⟩
 by_cases o3:n.op=3
 .refine ⟨_,true,ap3 ts ok n L o3,?_⟩
  unfold yf;rw[if_neg o2,if_pos o3];exact⟨rfl,fun _=>⟨_,rfl,rfl⟩⟩
 by_cases o4:n.op=4
 .refine ⟨_,true,ap4 ts ok n L o4,?_⟩
  unfold yf;rw[if_neg o2,if_neg o3,if_pos o4];exact⟨rfl,fun _=>⟨_,rfl,rfl⟩⟩
 by_cases g1:n.op=5\/n.op=11\/n.op=12\/n.op=13
 .obtain ⟨a,rfl,rfl,ha⟩:=h1 g1
  rw[apK1,if_neg o2,if_neg o3,if_neg o4];by_cases o5:n.op=5
  .rw [if_pos o5]
   exact⟨_,true,ap5 ts n _ o5,rfl,fun _=>⟨_,rfl,rfl⟩⟩
  have g:n.op=11\/n.op=12\/n.op=13:=by omega
  rw[if_neg o5,if_pos g];obtain⟨S,hc,hS⟩:=qiM ok ha g;refine⟨S,_,hc,?_⟩;by_cases har:a.ar=2
  .rw [if_pos har]
   exact⟨decide_eq_true har,fun _=>⟨_,rfl,hS har⟩⟩
  .rw [if_neg har]
   exact decide_eq_false har
 by_cases g2:n.op=6\/n.op=14\/n.op=7\/n.op=8\/n.op=32\/n.op=33\/n.op=9\/n.op=10
 .obtain ⟨a,b,rfl,rfl,ha,hb⟩:=h2 g2
  have ra:=ha.ar;have rb:=hb.ar;rw[apK2,if_neg o2,if_neg o3,if_neg o4];by_cases g3:n.op=6\/n.op=14\/n.op=7\/n.op=8\/n.op=32\/n.op=33
  .rw [if_pos g3]
   obtain⟨S,hc,hS⟩:=qiL (ts:=ts) (n:=n) (a:=a) (b:=b) g3;refine⟨S,_,hc,?_⟩;by_cases har:a.ar=b.ar
   .rw [if_pos har]
    exact⟨decide_eq_true har,fun hk=>⟨_,rfl,hS har hk⟩⟩
   .rw [if_neg har]
    exact decide_eq_false har
  rw[if_neg g3];by_cases o9:n.op=9
  .rw [if_pos o9]
   by_cases har:1<=a.ar+b.ar-2/\a.ar+b.ar-2<=3
   .rw [if_pos har]
    refine⟨_,_,ap9 ts n _ _ (qm (zA a b)) o9 (by show 0<=a.ar/\a.ar<=1000;omega) (by show 0<=b.ar/\b.ar<=1000;omega) ?_,decide_eq_true har,fun _=>⟨_,rfl,rfl⟩⟩;rw[<-gY ha hb hns har];exact vT _ _ (by show 0<=a.ar/\a.ar<=1000;omega) (by show 1<=b.ar/\b.ar<=1000;omega)
   .rw [if_neg har]
    exact⟨_,_,ap9 ts n _ _ _ o9 (by show 0<=a.ar/\a.ar<=1000;omega) (by show 0<=b.ar/\b.ar<=1000;omega) (vT _ _ (by show 0<=a.ar/\a.ar<=1000;omega) (by show 1<=b.ar/\b.ar<=1000;omega)),decide_eq_false har⟩
  have o10:n.op=10:=by omega
  rw[if_neg o9,if_pos o10];by_cases har:a.ar+b.ar<=3
  .rw [if_pos har]
   refine⟨_,_,ap10 ts n _ _ (qm (Qh a b)) o10 (by show 0<=a.ar/\a.ar<=1000;omega) (by show 0<=b.ar/\b.ar<=1000;omega) ?_,decide_eq_true har,fun _=>⟨_,rfl,rfl⟩⟩;rw[<-qhU ha hb hns har];exact gR _ _ (by show 0<=a.ar/\a.ar<=1000;omega) (by show 0<=b.ar/\b.ar<=1000;omega)
  .rw [if_neg har]
   exact⟨_,_,ap10 ts n _ _ _ o10 (by show 0<=a.ar/\a.ar<=1000;omega) (by show 0<=b.ar/\b.ar<=1000;omega) (gR _ _ (by show 0<=a.ar/\a.ar<=1000;omega) (by show 0<=b.ar/\b.ar<=1000;omega)),decide_eq_false har⟩
 refine⟨zR,true,apO ts n L o2 o3 o4 (by omega) (by omega) (by omega) (by omega) (by omega) (by omega) (by omega) (by omega) (by omega) (by omega) (by omega) (by omega),?_⟩;rw[We o2 o3 o4 (by omega) (by omega) (by omega) (by omega) (by omega) (by omega) (by omega) (by omega) (by omega) (by omega) (by omega) (by omega)];refine⟨rfl,fun hk=>?_⟩;have:=Wg hk;omega
theorem ny{ns:Nat}(hns:ns<=4){q:Kd}(h:okKd ns q)(h1:q.ar=1)(i:Int):vS i q=true↔∀ k:Nat,k<4->(qm q).2 k=true->(k:Int)=i:=by
 unfold vS;rw[qy];constructor
 .intro ha k hk hs
  rw[yp,h1]at hs;have:=ha _ hs.2;simpa[dig,pad] using this
 .intro ha t ht
  obtain⟨j,hj,e⟩:=ZO h hns ht;rw[h1]at hj e;have hj4:j<4:=hj;have:=ha j hj4 ((yp q j).2 ⟨by rw[h1];exact hj4,by rw[h1,<-e];exact ht⟩);rw[e];simp[dig,pad,this]
def ExR(c:Ck)(s:Scp)(inn:Bool)(n:Nd):Prop:=∃ S:RS,qi qd 196 [eVw c inn,lVr (envS s),eNd n] (.tup [eRS S,eDg (dgOf (exam c s inn n))])/\(kd n.op=101->∀ q,exam c s inn n = .ok (some q)->S=qm q)
theorem nA(c:Ck)(inn:Bool):HF (eVw c inn):=HF.agg fun x hx=>by
 simp only[qB,zr,or_false]at hx;rcases hx with rfl|rfl|rfl|rfl|rfl|rfl|rfl
 .exact J0 _
 .exact J1 _
 .exact wI _
 .exact Ys _
 .exact YY _
 .exact HF.sc _
 .exact HF.sc _
theorem wkE(c:Ck)(inn:Bool)(l:List Vr)(n:Nd):WKs [eVw c inn,lVr l,eNd n] [eVw c inn,lVr l,eNd n] := .cons (.hf (nA c inn)) (.cons (.hf (qh9 _)) (.cons (.hf (qI n)) .nil))
theorem vj(d:Dg):HF (eDg d):=HF.agg fun x hx=>by
 simp only[qB,zr,or_false]at hx;rcases hx with rfl|rfl<;>exact HF.sc _
theorem nB{c:Ck}{nm:ByteArray}{p:Nat}(hc:okCk c)(h:zD c nm=some p):(c.ts.preds.any fun p=>decide (p.name=nm))=true:=by
 obtain⟨_,hp⟩:=Yt hc h;unfold zD at h;rw[List.findIdx?_eq_some_iff_getElem]at h;obtain⟨hi,a1,_⟩:=h;simp only[List.getElem_take]at a1;exact List.any_eq_true.2 ⟨_,qu hp,a1⟩
theorem qiO{ts:TS}{nm:ByteArray}(h:zD (mkCk ts ts.preds.length) nm=none):(ts.preds.any fun p=>decide (p.name=nm))=false:=by
 unfold zD at h;rw[List.findIdx?_eq_none_iff]at h;rw[List.any_eq_false];intro p hp;have:p∈ts.preds.take ts.preds.length:=by rw[zw];exact hp
 have:=h p this;simpa using this
theorem nD{n:Nd}(hw:WfN n)(h:n.op=47):∀ k,k∈n.kids->kd k.op=101:=by
 have hsh:=hw.shape;have e:shp n.op n.kids.length=some (qX (min n.kids.length 401) 101):=by
  unfold shp;rw[if_neg (by omega),if_neg (by omega),if_neg (by omega),if_neg (by omega),if_neg (by omega),if_neg (by omega),if_neg (by omega),if_pos h]
 rw[e]at hsh;simp only[qn]at hsh;intro k hk;have:kd k.op∈n.kids.map fun k=>kd k.op:=qs.2 ⟨k,hk,rfl⟩
 rw[<-hsh]at this;exact List.eq_of_mem_replicate this
theorem qiP(c:Ck)(hc:okCk c)(s:Scp)(hs:ScOk c.ts.sorts.length s)(n:Nd)(hw:WfN n)(hop:n.op=47)(ih:∀ k,k∈n.kids->ExR c s true k)(inn:Bool) :
  qi qd 228 [eVw c inn,lVr (envS s),eNd n] (eDg (dgOf (vY c s n))):=by
 generalize hR:vY c s n=R;unfold vY at hR;refine qSQ call228 func228 rfl { mt:=[3] } ?_;have hnp:=hc.ts.np;have hkl:=hw.len;have hp1:=Vy c hc n.name;have hp2:=Vy (mkCk c.ts c.ts.preds.length) (ZC hc.ts (qr _)) n.name;have hwp:∀ k:Int,WKs [eTS c.ts,aI k,aS n.name] [eTS c.ts,aI k,aS n.name]:=fun k => .cons (.hf (zl _)) (.cons (.hf (HF.sc _)) (.cons (.hf (HF.sc _)) .nil))
 simp[go_sem];refine qb.pure hp1 (hwp _) ?_;cases hcal:zD c n.name with
 |none =>
  rw[hcal]at hR;simp[go_sem,idxO];refine qb.pure hp2 (hwp _) ?_;cases hcal2:zD (mkCk c.ts c.ts.preds.length) n.name with
  |none =>
   rw[qiO hcal2]at hR;subst hR;simp[go_sem,idxO,dgOf];exact .hf _ (vj (40,n.pos))
  |some p =>
   have ha:(c.ts.preds.any fun p=>decide (p.name=n.name))=true:=nB (c:=mkCk c.ts c.ts.preds.length) (ZC hc.ts (qr _)) hcal2;rw[ha]at hR;subst hR;have hp0:¬(p:Int)<0:=by omega
   simp[go_sem,idxO,dgOf,hp0];exact .hf _ (vj (45,n.pos))
 |some p =>
  obtain⟨_,hlt⟩:=Yt hc hcal;rw[nB hc hcal,if_pos rfl,hcal]at hR;simp only[qv hlt]at hR;have hp0:¬(p:Int)<0:=by omega
  have hpd:=hc.ts.pl _ (qu hlt);simp[go_sem,idxO,hlt,vC,hp0];generalize hpp:c.ts.preds[p]=pd at *
  by_cases hpl:pd.params.length=n.kids.length
  .rw [if_pos hpl]at hR
   simp[go_sem,hpl];have hkd:=nD hw hop;refine ql.upK pd.params.length (fun k st=>st.tm 1=lVr (envS s)/\st.tm 3 = .ptr 0 0/\st.tm 5 = .ip (cNd n)/\st.tm 6 = .ptr 1 0/\st.tm 8=lPm pd.params/\st.tm 9=aI k/\st.mu[0]?=some (.arr (cVw c true))/\st.mu[1]?=some (.arr [aI 0,aI 0])/\zP c s n.pos (pd.params.drop k) (n.kids.drop k)=R) ?_ ?_
   .exact ⟨by simp[go_sem],by simp[go_sem],by simp[go_sem],by simp[go_sem],by simp[go_sem],by simp[go_sem],by simp[go_sem],by simp[go_sem],by simpa using hR⟩
   rintro k st hk ⟨e1,e3,e5,e6,e8,e9,m0,m1,hE⟩;have hml:1<st.mu.length:=(qk.1 m1).1;have hpush:∀(l:List Cell) (i:Nat),i<st.mu.length->(st.mu++l)[i]?=st.mu[i]?:=fun l i hi=>qp hi
   have hset:∀ c,(st.mu.set 1 c)[1]?=some c:=fun c=>zb hml
   have hset2:∀ c (l:List Cell),((st.mu++l).set 1 c)[1]?=some c:=fun c l=>zb (by simp;omega)
   have hg0:∀(l:List Cell) (h:0<(st.mu++l).length),(st.mu++l)[0] = .arr (cVw c true):=fun l h=>by
    rw[Xr (by omega)];exact(qk.1 m0).2
   have hg1:∀(l:List Cell) (h:1<(st.mu++l).length),(st.mu++l)[1] = .arr [aI 0,aI 0]:=fun l h=>by
    rw[Xr (by omega)];exact(qk.1 m1).2
   by_cases hkl':k=pd.params.length
   .subst hkl'
    rw[zL,hpl,zL]at hE;simp only[zP]at hE;subst hE;simp[go_sem,e1,e3,e5,e6,e8,e9,m0,m1,hpl,dgOf,hset];exact .hf _ (vj (0,0))
   have hlt1:k<pd.params.length:=by omega
   have hlt2:k<n.kids.length:=by omega
   have w1:qj.wrap ((k:Int)+1)=(k:Int)+1:=qg (by omega) (by omega);obtain⟨S,hi,hS⟩:=ih n.kids[k] (qu hlt2);rw[zj hlt1,zj hlt2]at hE;simp only[zP]at hE;have hok:=u6 hc (szN n.kids[k]) n.kids[k] s true;have hkk:=hkd n.kids[k] (qu hlt2);have hwk':=hw.kid (qu hlt2);simp[go_sem,e1,e3,e5,e6,e8,e9,m0,m1,hlt1,hlt2,qo];refine qe.move 11 1 (by kernel_rfl) (by kernel_rfl) ?_ ?_
   .simp [go_sem,e1,e3,e5,e6,e8,e9,m0,m1,hlt1,hlt2,qo]
    refine qb.pure hi (wkE c true _ _) ?_;cases hx:exam c s true n.kids[k] with
    |error e =>
     rw[hx]at hE;subst hE;have he:=Qz c (szN n.kids[k]) n.kids[k] s true e (qr _) hx;have he0:¬e.1=0:=by omega
     simp[go_sem,e1,e3,e5,e6,e8,e9,m0,m1,hlt1,hlt2,qh,QE.tk,pc,hpush,he0,dgOf];rw[if_pos (qC _)];generalize hP:putCells _ 0 (aI S.1 :: hB S.2)=P;have hP2:P=aI S.1 :: hB S.2:=by rw[<-hP];exact pc (aI 0) _ (fun _=>false) _
     subst hP2;clear hP;simp[go_sem,e1,e3,e5,e6,e8,e9,m0,m1,hlt1,hlt2,qh,QE.tk,pc,hpush,he0,dgOf];simp[go_sem,hg1,hset2,e6];exact .hf _ (vj e)
    |ok ko =>
     obtain⟨q,rfl,hq⟩:=hok ko (qr _) hwk' hs hx hkk;have hSq:=hS hkk q hx;subst hSq;rw[hx]at hE;simp only at hE;have hns:=hc.ts.ns;have haq:(qm q).1=q.ar:=rfl;have hag:=fun h=>ny hns hq h pd.params[k].2
     generalize qm q=Q at *
     simp[go_sem,e1,e3,e5,e6,e8,e9,m0,m1,hlt1,hlt2,qh,QE.tk,pc,hpush,dgOf];rw[if_pos (qC _)];generalize hP:putCells _ 0 (aI Q.1 :: hB Q.2)=P;have hP2:P=aI Q.1 :: hB Q.2:=by rw[<-hP];exact pc (aI 0) _ (fun _=>false) _
     subst hP2;clear hP;by_cases har:q.ar=1
     .rw [if_pos har]at hE
      have har':Q.1=1:=haq.trans har;simp[go_sem,e1,e3,e5,e6,e8,e9,m0,m1,hlt1,hlt2,qh,QE.tk,pc,hpush,dgOf,har'];have hfst:pd.params[k].2<4/\0<=pd.params[k].2:=by have:=hpd.2 _ (qu hlt1);omega
      refine ql.upK 4 (fun j st'=>∃ b,2<=b/\st'.tm 10 = .ptr b 0/\st'.mu[b]?=some (.arr (aI 1 :: hB Q.2))/\st'.tm 1=lVr (envS s)/\st'.tm 3 = .ptr 0 0/\st'.tm 5 = .ip (cNd n)/\st'.tm 6 = .ptr 1 0/\st'.tm 8=lPm pd.params/\st'.tm 9=aI k/\st'.tm 12=aI j/\st'.mu[0]?=some (.arr (cVw c true))/\st'.mu[1]?=some (.arr [aI 0,aI 0]) /\
       ∀ i:Nat,i<j->Q.2 i=true->(i:Int)=pd.params[k].2) ?_ ?_
      .exact ⟨st.mu.length,by omega,by simp[go_sem],by simp[go_sem],by simp[go_sem,e1],by simp[go_sem,e3],by simp[go_sem,e5],by simp[go_sem,e6],by simp[go_sem,e8],by simp[go_sem,e9],by simp[go_sem],by simp only[qL];rw[hpush _ _ (by omega)];exact m0,by simp only[qL];rw[hpush _ _ (by omega)];exact m1,fun i hi=>by omega⟩
      .clear e1 e3 e5 e6 e8 e9 m0 m1 hpush hset hset2 hg0 hg1 hml
       rintro j st2 hj ⟨b,hb,e10,mb,e1,e3,e5,e6,e8,e9,e12,m0,m1,hall⟩;have hml:1<st2.mu.length:=(qk.1 m1).1;have hset:∀ c,(st2.mu.set 1 c)[1]?=some c:=fun c=>zb hml
       by_cases hj4:j<4
       .have hjl:(j:Int)<4:=by omega
        have hj64:j<64:=by omega
        have hj64':(j:Int)<64:=by omega
        have wj:qj.wrap ((j:Int)+1)=(j:Int)+1:=qg (by omega) (by omega);have hd1:=d1 (aI 1) Q.2 j hj64;have hi1:1+j<=64:=by omega
        by_cases hQ:Q.2 j=true
        .rw [hQ]at hd1
         by_cases hq2:(j:Int)=pd.params[k].2
         .have hq3:=eq_true hq2
          simp[go_sem,e10,mb,e1,e3,e5,e6,e8,e9,e12,hjl,hj64,hj64',hd1,hi1,qh,hlt1,hq3,wj];refine⟨hj4,Keep.mk' ⟨b,hb,by simp[go_sem,e10],by simp[go_sem,mb],by simp[go_sem,e1],by simp[go_sem,e3],by simp[go_sem,e5],by simp[go_sem,e6],by simp[go_sem,e8],by simp[go_sem,e9],by simp[go_sem],by simp[go_sem,m0],by simp[go_sem,m1],fun i hi h=>?_⟩⟩;by_cases hij:i=j
          .subst hij;exact hq2
          .exact hall i (by omega) h
         .have hbad:¬vS pd.params[k].2 q=true:=fun h=>hq2 ((hag har).1 h j hj4 hQ)
          rw[if_neg hbad]at hE;subst hE;simp[go_sem,e10,mb,e1,e3,e5,e6,e8,e9,e12,hjl,hj64,hj64',hd1,hi1,qh,hlt1,hq2,wj,m1,hset];exact .hf _ (vj (43,n.pos))
        .have hQ:Q.2 j=false:=by simpa using hQ
         rw[hQ]at hd1;simp[go_sem,e10,mb,e1,e3,e5,e6,e8,e9,e12,hjl,hj64,hj64',hd1,hi1,qh,hlt1,wj];refine⟨hj4,Keep.mk' ⟨b,hb,by simp[go_sem,e10],by simp[go_sem,mb],by simp[go_sem,e1],by simp[go_sem,e3],by simp[go_sem,e5],by simp[go_sem,e6],by simp[go_sem,e8],by simp[go_sem,e9],by simp[go_sem],by simp[go_sem,m0],by simp[go_sem,m1],fun i hi h=>?_⟩⟩;by_cases hij:i=j
         .subst hij;rw[hQ]at h;cases h
         .exact hall i (by omega) h
       .have hje:j=4:=by omega
        subst hje;have hgood:vS pd.params[k].2 q=true:=(hag har).2 fun i hi h=>hall i hi h
        rw[if_pos hgood]at hE;simp[go_sem,e10,mb,e1,e3,e5,e6,e8,e9,e12,w1];exact⟨hlt1,Keep.mk' ⟨by simp[go_sem,e1],by simp[go_sem,e3],by simp[go_sem,e5],by simp[go_sem,e6],by simp[go_sem,e8],by simp[go_sem],by simp[go_sem,m0],by simp[go_sem,m1],hE⟩⟩
     .rw [if_neg har]at hE
      subst hE;have har':¬Q.1=1:=fun e=>har (haq.symm.trans e)
      simp[go_sem,e1,e3,e5,e6,e8,e9,m0,m1,hlt1,hlt2,qh,QE.tk,pc,hpush,dgOf,har',hg1,hset2,e6];exact .hf _ (vj (42,n.pos))
   .simp [go_sem,e1,e3,e5,e6,e8,e9,m0,m1,hlt1,hlt2,qo]
    refine qb.pure hi (wkE c true _ _) ?_;cases hx:exam c s true n.kids[k] with
    |error e =>
     rw[hx]at hE;subst hE;have he:=Qz c (szN n.kids[k]) n.kids[k] s true e (qr _) hx;have he0:¬e.1=0:=by omega
     simp[go_sem,e1,e3,e5,e6,e8,e9,m0,m1,hlt1,hlt2,qh,QE.tk,pc,hpush,he0,dgOf];rw[if_pos (qC _)];generalize hP:putCells _ 0 (aI S.1 :: hB S.2)=P;have hP2:P=aI S.1 :: hB S.2:=by rw[<-hP];exact pc (aI 0) _ (fun _=>false) _
     subst hP2;clear hP;simp[go_sem,e1,e3,e5,e6,e8,e9,m0,m1,hlt1,hlt2,qh,QE.tk,pc,hpush,he0,dgOf];simp[go_sem,hg1,hset2,e6];exact .hf _ (vj e)
    |ok ko =>
     obtain⟨q,rfl,hq⟩:=hok ko (qr _) hwk' hs hx hkk;have hSq:=hS hkk q hx;subst hSq;rw[hx]at hE;simp only at hE;have hns:=hc.ts.ns;have haq:(qm q).1=q.ar:=rfl;have hag:=fun h=>ny hns hq h pd.params[k].2
     generalize qm q=Q at *
     simp[go_sem,e1,e3,e5,e6,e8,e9,m0,m1,hlt1,hlt2,qh,QE.tk,pc,hpush,dgOf];rw[if_pos (qC _)];generalize hP:putCells _ 0 (aI Q.1 :: hB Q.2)=P;have hP2:P=aI Q.1 :: hB Q.2:=by rw[<-hP];exact pc (aI 0) _ (fun _=>false) _
     subst hP2;clear hP;by_cases har:q.ar=1
     .rw [if_pos har]at hE
      have har':Q.1=1:=haq.trans har;simp[go_sem,e1,e3,e5,e6,e8,e9,m0,m1,hlt1,hlt2,qh,QE.tk,pc,hpush,dgOf,har'];have hfst:pd.params[k].2<4/\0<=pd.params[k].2:=by have:=hpd.2 _ (qu hlt1);omega
      refine ql.upK 4 (fun j st'=>∃ b,2<=b/\st'.tm 10 = .ptr b 0/\st'.mu[b]?=some (.arr (aI 1 :: hB Q.2))/\st'.tm 1=lVr (envS s)/\st'.tm 3 = .ptr 0 0/\st'.tm 5 = .ip (cNd n)/\st'.tm 6 = .ptr 1 0/\st'.tm 8=lPm pd.params/\st'.tm 9=aI k/\st'.tm 12=aI j/\st'.mu[0]?=some (.arr (cVw c true))/\st'.mu[1]?=some (.arr [aI 0,aI 0]) /\
       ∀ i:Nat,i<j->Q.2 i=true->(i:Int)=pd.params[k].2) ?_ ?_
      .exact ⟨st.mu.length+1,by omega,by simp[go_sem],by simp[go_sem],by simp[go_sem,e1],by simp[go_sem,e3],by simp[go_sem,e5],by simp[go_sem,e6],by simp[go_sem,e8],by simp[go_sem,e9],by simp[go_sem],by simp only[qL];rw[hpush _ _ (by omega)];exact m0,by simp only[qL];rw[hpush _ _ (by omega)];exact m1,fun i hi=>by omega⟩
      .clear e1 e3 e5 e6 e8 e9 m0 m1 hpush hset hset2 hg0 hg1 hml
       rintro j st2 hj ⟨b,hb,e10,mb,e1,e3,e5,e6,e8,e9,e12,m0,m1,hall⟩;have hml:1<st2.mu.length:=(qk.1 m1).1;have hset:∀ c,(st2.mu.set 1 c)[1]?=some c:=fun c=>zb hml
       by_cases hj4:j<4
       .have hjl:(j:Int)<4:=by omega
        have hj64:j<64:=by omega
        have hj64':(j:Int)<64:=by omega
        have wj:qj.wrap ((j:Int)+1)=(j:Int)+1:=qg (by omega) (by omega);have hd1:=d1 (aI 1) Q.2 j hj64;have hi1:1+j<=64:=by omega
        by_cases hQ:Q.2 j=true
        .rw [hQ]at hd1
         by_cases hq2:(j:Int)=pd.params[k].2
         .have hq3:=eq_true hq2
          simp[go_sem,e10,mb,e1,e3,e5,e6,e8,e9,e12,hjl,hj64,hj64',hd1,hi1,qh,hlt1,hq3,wj];refine⟨hj4,Keep.mk' ⟨b,hb,by simp[go_sem,e10],by simp[go_sem,mb],by simp[go_sem,e1],by simp[go_sem,e3],by simp[go_sem,e5],by simp[go_sem,e6],by simp[go_sem,e8],by simp[go_sem,e9],by simp[go_sem],by simp[go_sem,m0],by simp[go_sem,m1],fun i hi h=>?_⟩⟩;by_cases hij:i=j
          .subst hij;exact hq2
          .exact hall i (by omega) h
         .have hbad:¬vS pd.params[k].2 q=true:=fun h=>hq2 ((hag har).1 h j hj4 hQ)
          rw[if_neg hbad]at hE;subst hE;simp[go_sem,e10,mb,e1,e3,e5,e6,e8,e9,e12,hjl,hj64,hj64',hd1,hi1,qh,hlt1,hq2,wj,m1,hset];exact .hf _ (vj (43,n.pos))
        .have hQ:Q.2 j=false:=by simpa using hQ
         rw[hQ]at hd1;simp[go_sem,e10,mb,e1,e3,e5,e6,e8,e9,e12,hjl,hj64,hj64',hd1,hi1,qh,hlt1,wj];refine⟨hj4,Keep.mk' ⟨b,hb,by simp[go_sem,e10],by simp[go_sem,mb],by simp[go_sem,e1],by simp[go_sem,e3],by simp[go_sem,e5],by simp[go_sem,e6],by simp[go_sem,e8],by simp[go_sem,e9],by simp[go_sem],by simp[go_sem,m0],by simp[go_sem,m1],fun i hi h=>?_⟩⟩;by_cases hij:i=j
         .subst hij;rw[hQ]at h;cases h
         .exact hall i (by omega) h
       .have hje:j=4:=by omega
        subst hje;have hgood:vS pd.params[k].2 q=true:=(hag har).2 fun i hi h=>hall i hi h
        rw[if_pos hgood]at hE;simp[go_sem,e10,mb,e1,e3,e5,e6,e8,e9,e12,w1];exact⟨hlt1,Keep.mk' ⟨by simp[go_sem,e1],by simp[go_sem,e3],by simp[go_sem,e5],by simp[go_sem,e6],by simp[go_sem,e8],by simp[go_sem],by simp[go_sem,m0],by simp[go_sem,m1],hE⟩⟩
     .rw [if_neg har]at hE
      subst hE;have har':¬Q.1=1:=fun e=>har (haq.symm.trans e)
      simp[go_sem,e1,e3,e5,e6,e8,e9,m0,m1,hlt1,hlt2,qh,QE.tk,pc,hpush,dgOf,har',hg1,hset2,e6];exact .hf _ (vj (42,n.pos))
  .rw [if_neg hpl]at hR
   subst hR;have hpl':¬n.kids.length=pd.params.length:=fun e=>hpl e.symm
   simp[go_sem,hpl',dgOf];exact .hf _ (vj (45,n.pos))
end QO
namespace QR
open Y9 Y10 Y1 Y2 Y12 P1 P2 QE QF QJ QL QN PG QO
theorem nE{n:Nd}(hw:WfN n)(h:n.op=15\/n.op=45\/n.op=46):∃ a f,n.kids=[a,f]/\kd a.op=101:=by
 have hs:=hw.shape;unfold shp at hs;rw[if_neg (by omega),if_neg (by omega),if_neg (by omega),if_pos (by omega)]at hs;simp only[qn]at hs
 match hk:n.kids,hs with
 | [a,f],hs =>
  simp at hs;exact⟨a,f,rfl,hs.1.symm⟩
 | [],hs=>simp at hs
 | [_],hs=>simp at hs
 |_ :: _ :: _ :: _,hs=>simp at hs
theorem five{α:Type}{l:List α}{a b c d e:α}(h0:l[0]?=some a)(h1:l[1]?=some b)(h2:l[2]?=some c)(h3:l[3]?=some d)(h4:l[4]?=some e):∃ r,l=a :: b :: c :: d :: e :: r:=by
 match l,h0,h1,h2,h3,h4 with
 |_ :: _ :: _ :: _ :: _ :: r,h0,h1,h2,h3,h4 =>
  simp at h0 h1 h2 h3 h4;exact⟨r,by rw[h0,h1,h2,h3,h4]⟩
def Ja:Res->RS
 | .ok (some k)=>if k.ar=1 then qm k else zR
 |_=>zR
theorem qiQ(s:RS)(d:Dg):FL (.tup [eRS s,eDg d]):=FL.tup fun x hx=>by
 rcases qB.1 hx with rfl|hx
 .exact FL.agg fun c hc=>by
   rcases qB.1 hc with rfl|hc
   .exact FL.sc _
   .obtain ⟨j,_,rfl⟩:=qs.1 hc
    exact FL.sc _
 .rw [qW]at hx;subst hx
  exact FL.agg fun c hc=>by
   rcases qB.1 hc with rfl|hc
   .exact FL.sc _
   .rw [qW]at hc;subst hc;exact FL.sc _
theorem qiR(c:Ck)(hc:okCk c)(s:Scp)(hs:ScOk c.ts.sorts.length s)(hsl:s.length<=90000)(n a g:Nd)(hw:WfN n)(hb:n.op=15\/n.op=45\/n.op=46)(hks:n.kids=[a,g])(hka:kd a.op=101)(inn:Bool)
  (iha:ExR c s (inn||decide (n.op=15)) a) (ihg:∀ k,okKd c.ts.sorts.length k->k.ar=1->ExR c ((n.name,k) :: s) (inn||decide (n.op=15)) g) :
  qi qd 229 [eVw c inn,lVr (envS s),eNd n] (.tup [eRS (Ja (exam c s (inn||decide (n.op=15)) a)),eDg (dgOf (yG c s (inn||decide (n.op=15)) n.name n.pos n.kids))]):=by
 have wa:=hw.kid (k:=a) (by rw[hks];simp);obtain⟨S,ca,hS⟩:=iha;have hok:=u6 hc (szN a) a s (inn||decide (n.op=15));have herr:=Qz c (szN a) a s (inn||decide (n.op=15));rw[hks];have w1:=wkE c (inn||decide (n.op=15)) (envS s) a;have hB2:n.op=15->(inn||decide (n.op=15))=true:=fun h=>by simp[h]
 have hB3:¬n.op=15->(inn||decide (n.op=15))=inn:=fun h=>by simp[h]
 generalize (inn||decide (n.op=15))=B at *
 generalize hE:dgOf (yG c s B n.name n.pos [a,g])=E;generalize hX:exam c s B a=X at *
 have ihg2:∀ k,okKd c.ts.sorts.length k->k.ar=1->X = .ok (some k)->∃ S2,qi qd 196 [eVw c B,lVr (envS ((n.name,k) :: s)),eNd g] (.tup [eRS S2,eDg E]):=fun k hk har hXk=>by
  obtain⟨S2,cg,_⟩:=ihg k hk har;refine⟨S2,?_⟩;have hEe:E=dgOf (exam c ((n.name,k) :: s) B g):=by
   rw[<-hE];simp only[yG,zo];rw[hX,hXk];simp only;rw[if_pos har];cases exam c ((n.name,k) :: s) B g<;>rfl
  rw[hEe];exact cg
 refine qSQ call229 func229 rfl { mt:=[3] } ?_;by_cases h15:n.op=15
 case' pos =>
  have hBt:=hB2 h15;subst hBt
 case' neg =>
  have hBt:=hB3 h15;subst hBt
 all_goals
  simp[go_sem,h15,hks,qo];refine qe.seg [0,1,2,3,4,5,6,7,8,9,10,11,12,13] [(0,0,[]),(1,0,[]),(2,0,[]),(3,0,[]),(4,0,[]),(5,0,[]),(6,1,[]),(7,0,[]),(8,0,[]),(9,0,[]),(10,2,[0,3,5]),(11,2,[0,3,5]),(12,1,[]),(13,1,[])] (by kernel_rfl) (by kernel_rfl) (by simp[go_sem]) ?_;simp[go_sem,h15,hks,qo];refine qb.pure ca w1 ?_;simp[go_sem,qh,tk,pc,hks,qo];rw[if_pos (qC _)];generalize hP:putCells _ 0 (aI S.1 :: hB S.2)=P;have hP2:P=aI S.1 :: hB S.2:=by rw[<-hP];exact pc (aI 0) _ (fun _=>false) _
  subst hP2;clear hP;simp[go_sem,qh,tk,pc]
 all_goals
  cases X with
  |error e =>
   have he:=herr e (qr _) rfl;have he0:¬e.1=0:=by omega
   have hEe:E=e:=by rw[<-hE];simp only[yG];rw[hX];rfl
   subst hEe;clear hE;simp[go_sem,dgOf,he0];refine qe.float [] [0,1] [(2,true),(3,false)] (by kernel_rfl) (by kernel_rfl) (by kernel_rfl) ?_;simp[go_sem,dgOf,he0];exact .hf _ (zO zR E)
  |ok ko =>
   obtain⟨q,rfl,hq⟩:=hok ko (qr _) wa hs rfl hka;have hSq:=hS hka q rfl;subst hSq;have haq:(qm q).1=q.ar:=rfl;by_cases har:q.ar=1
   .have har':(qm q).1=1:=haq.trans har
    obtain⟨S2,cg⟩:=ihg2 q hq har rfl;have hbs:Ja (.ok (some q))=qm q:=if_pos har;rw[hbs];have henv:envS ((n.name,q) :: s)=envS s++[(n.name,qm q)]:=by simp[envS]
    rw[henv]at cg;generalize qm q=Q at *
    obtain⟨qa,qf⟩:=Q;have har'':qa=1:=har';subst har'';simp[go_sem,dgOf];refine qe.seg [0,1,2,4,5,6,7,8,10,11,12,13,3,9,14,15,16,17,18,19,20,21] [(0,0,[]),(1,0,[]),(2,0,[]),(4,0,[]),(5,0,[]),(6,0,[]),(7,0,[]),(8,0,[]),(10,0,[]),(11,0,[]),(12,0,[]),(13,0,[]),(3,1,[0,5,6,11,13]),(9,1,[0,11,13]),(14,1,[]),(15,0,[]),(16,0,[]),(17,0,[]),(18,2,[0,5,6,11,13]),(19,2,[0,5,6,11,13]),(20,1,[]),(21,1,[])] (by kernel_rfl) (by kernel_rfl) (by simp[go_sem]) ?_;simp[go_sem,dgOf,qh,tk,pc,hks,qo];rw[if_pos (qC _)];generalize hC:putCells _ 1 _=C;have hC2:C=cVr (n.name,(1,qf)):=by rw[<-hC];exact pcV n.name (1,qf)
    subst hC2;clear hC;have hcl:(cVr (n.name,((1:Int),qf))).length=66:=by simp[qh]
    have hco:=W9 (n.name,((1:Int),qf));generalize hV:cVr (n.name,((1:Int),qf))=V at *
    simp[go_sem,dgOf,qh,tk,pc,hks,qo,hcl];rw[if_pos hco];simp[go_sem,dgOf,qh,tk,pc,hks,qo,hcl];refine Xb (lo:=5) (xs:=[]) (ys:=envS s) (OwnF.nil (by simp)) (by simp[qG]) (by simp[VA];omega) fun av1 m1 ho1 hm1=>?_
    have k0:=hm1 0 (by omega);have k1:=hm1 1 (by omega);have k2:=hm1 2 (by omega);have k3:=hm1 3 (by omega);have k4:=hm1 4 (by omega);simp at k0 k1 k2 k3 k4;simp[go_sem,dgOf,qh,tk,pc,hks,qo,k0,k1,k2,k3,k4];refine Xb (xs:=[]++envS s) (ys:=[(n.name,(1,qf))]) ho1 (by simp[qG,hV]) (by simp[VA];omega) fun av2 m2 ho2 hm2=>?_
    rw[yP]at ho2;have hml:=ho2.2.2;replace k0:=(hm2 0 (by omega)).trans k0;replace k1:=(hm2 1 (by omega)).trans k1;replace k2:=(hm2 2 (by omega)).trans k2;replace k3:=(hm2 3 (by omega)).trans k3;replace k4:=(hm2 4 (by omega)).trans k4;have hpush:∀(l:List Cell) (i:Nat),i<m2.length->(m2++l)[i]?=m2[i]?:=fun l i hi=>qp hi
    have g0:=(qk.1 k0).2;have g1:=(qk.1 k1).2;have g2:=(qk.1 k2).2;have g3:=(qk.1 k3).2;simp[go_sem,dgOf,qh,tk,pc,hks,qo,k0,k1,k2,k3,k4];refine qb.lend (args':=[eVw c _,lVr (envS s++[(n.name,(1,qf))]),eNd g]) cg ⟨.hf _ (nA c _),rdVr ho2,.hf _ (qI g),trivial⟩ (qiQ S2 _) ?_;have p0:=fun l=>(hpush l 0 (by omega)).trans k0
    have p1:=fun l=>(hpush l 1 (by omega)).trans k1
    have p2:=fun l=>(hpush l 2 (by omega)).trans k2
    have p3:=fun l=>(hpush l 3 (by omega)).trans k3
    have p4:=fun l=>(hpush l 4 (by omega)).trans k4
    have hl0:0<m2.length:=by omega
    have hl3:3<m2.length:=by omega
    simp[go_sem,dgOf,qh,tk,pc,hks,qo,k0,k1,k2,k3,k4,g0,g1,g2,g3,hl0,hl3,p0,p1,p2,p3,p4];rw[if_pos (qC _)];generalize hP:putCells _ 0 (cRS S2)=P;have hP2:P=cRS S2:=by rw[<-hP];exact pc (aI 0) _ (fun _=>false) _
    subst hP2;clear hP;simp[go_sem,dgOf,qh,tk,pc,hks,qo,k0,k1,k2,k3,k4,g0,g1,g2,g3,hl0,hl3,p0,p1,p2,p3,p4];obtain⟨rr,hrr⟩:=five k0 k1 k2 k3 k4;have hrl:m2.length=rr.length+5:=by rw[hrr];rfl
    clear g0 g1 g2 g3 p0 p1 p2 p3 p4 hpush ho2 hm2 k0 k1 k2 k3 k4 hml hl0 hl3;refine qe.seg [0,1,2,3] [(0,0,[]),(1,0,[]),(2,1,[1]),(3,1,[])] (by kernel_rfl) (by kernel_rfl) (by simp[go_sem]) ?_;simp[go_sem,dgOf,qh,tk,pc,hks,qo,hrr];rw[if_pos (qC _)];generalize hP:putCells _ 0 (aI 1 :: hB qf)=P;have hP2:P=aI 1 :: hB qf:=by rw[<-hP];exact pc (aI 0) (aI 1) (fun _=>false) qf
    subst hP2;clear hP;simp[go_sem,dgOf,qh,tk,pc,hks,qo,hrr];exact .hf _ (zO (1,qf) E)
   .have har':¬(qm q).1=1:=fun e=>har (haq.symm.trans e)
    have hbs:Ja (.ok (some q))=zR:=if_neg har;rw[hbs];have hEe:E=(42,n.pos):=by
     rw[<-hE];simp only[yG];rw[hX];simp only;rw[if_neg har];rfl
    subst hEe;clear hE;generalize qm q=Q at *
    simp[go_sem,dgOf,har'];refine qe.float [] [0,1,2,3] [(4,true),(5,false)] (by kernel_rfl) (by kernel_rfl) (by kernel_rfl) ?_;simp[go_sem,dgOf];exact .hf _ (zO zR (42,n.pos))
theorem qiS(ts:TS)(ok:okTS ts)(n:Nd)(l:List (Option Kd))(e1:n.op≠1)(e15:n.op≠15)
  (h1:n.op=5\/n.op=11\/n.op=12\/n.op=13->∃ a,l=[some a]/\okKd ts.sorts.length a)
  (h2:n.op=6\/n.op=14\/n.op=7\/n.op=8\/n.op=32\/n.op=33\/n.op=9\/n.op=10->∃ a b,l=[some a,some b]/\okKd ts.sorts.length a/\okKd ts.sorts.length b) :
  ∃ S b,(∀ L:List RS,((n.op=5\/n.op=11\/n.op=12\/n.op=13)\/(n.op=6\/n.op=14\/n.op=7\/n.op=8\/n.op=32\/n.op=33\/n.op=9\/n.op=10)->L=l.map setO)->prC ts n L S b)/\ApE n.op (yf ts.sorts.length n.op n.n n.pos l) S b:=by
 by_cases hr:(n.op=5\/n.op=11\/n.op=12\/n.op=13)\/(n.op=6\/n.op=14\/n.op=7\/n.op=8\/n.op=32\/n.op=33\/n.op=9\/n.op=10)
 .obtain ⟨S,b,c,a⟩:=qiN ts ok n l (l.map setO) e1 e15 (fun h=>by obtain⟨a,rfl,ha⟩:=h1 h;exact⟨a,rfl,rfl,ha⟩) (fun h=>by obtain⟨a,b,rfl,ha,hb⟩:=h2 h;exact⟨a,b,rfl,rfl,ha,hb⟩)
  exact⟨S,b,fun L hL=>by rw[hL hr];exact c,a⟩
 by_cases o2:n.op=2
 .refine ⟨qm ⟨n.n,[]⟩,true,fun L _=>nu (nn n.n) (ap2 ts n L o2),?_⟩
  unfold yf;rw[if_pos o2];exact⟨rfl,fun _=>⟨_,rfl,rfl⟩⟩
 by_cases o3:n.op=3
 .refine ⟨_,true,fun L _=>ap3 ts ok n L o3,?_⟩
  unfold yf;rw[if_neg o2,if_pos o3];exact⟨rfl,fun _=>⟨_,rfl,rfl⟩⟩
 by_cases o4:n.op=4
 .refine ⟨_,true,fun L _=>ap4 ts ok n L o4,?_⟩
  unfold yf;rw[if_neg o2,if_neg o3,if_pos o4];exact⟨rfl,fun _=>⟨_,rfl,rfl⟩⟩
 refine⟨zR,true,fun L _=>apO ts n L o2 o3 o4 (by omega) (by omega) (by omega) (by omega) (by omega) (by omega) (by omega) (by omega) (by omega) (by omega) (by omega) (by omega),?_⟩;rw[We o2 o3 o4 (by omega) (by omega) (by omega) (by omega) (by omega) (by omega) (by omega) (by omega) (by omega) (by omega) (by omega) (by omega)];refine⟨rfl,fun hk=>?_⟩;have:=Wg hk;omega
def resS:Res->RS
 | .ok (some k)=>qm k
 |_=>zR
theorem qiT(R:Res):endR zR R = .tup [eRS (resS R),eDg (dgOf R)]:=by
 cases R with
 |error e=>rfl
 |ok k=>cases k<;>rfl
end QR
namespace QS
open YZ YF Y9 Y10 Y1 Y2 Y13 P1 P2 QE QF QI QJ QL QN PG QO QR
theorem VB(c:Ck)(op:Int)(nm:ByteArray):yw c op nm=(zX op||(decide (op=47)&&tpB c nm)):=rfl
theorem qiU{ns:Nat}{op n pos:Int}{l:List (Option Kd)}{e:Dg}(h:yf ns op n pos l = .error e):e=(42,pos):=by
 unfold yf at h
 repeat' split at h
 all_goals first
  | (cases h;done)
  | (cases h;rfl)
theorem wkTP(c:Ck)(nm:ByteArray):WKs [eTS c.ts,lBo c.timed,aI c.calls,aS nm] [eTS c.ts,lBo c.timed,aI c.calls,aS nm] := .cons (.hf (zl _)) (.cons (.hf (YY _)) (.cons (.hf (HF.sc _)) (.cons (.hf (HF.sc _)) .nil)))
theorem wk1I(k:Int):WKs [aI k] [aI k] := .cons (.hf (HF.sc _)) .nil
theorem ZR(s:RS)(b:Bool):FL (.tup [eRS s,aB b]):=FL.tup fun x hx=>by
 rcases qB.1 hx with rfl|hx
 .exact FL.agg fun c hc=>by
   rcases qB.1 hc with rfl|hc
   .exact FL.sc _
   .obtain ⟨j,_,rfl⟩:=qs.1 hc
    exact FL.sc _
 .rw [qW]at hx;subst hx;exact FL.sc _
theorem qiV(c:Ck)(hc:okCk c)(s:Scp)(n:Nd)(ht:yw c n.op n.name=true):ExR c s true n:=by
 refine⟨zR,?_,fun _ q h=>?_⟩
 case refine_2=>rw[vD,if_pos (by simp[ht])]at h;cases h
 have hx:exam c s true n = .error (46,n.pos):=by rw[vD,if_pos (by simp[ht])]
 rw[hx];rw[VB]at ht;refine qSQ call196 func196 rfl { mt:=[3] } ?_;have ct:=vA n.op;have cp:=ua c hc n.name;simp[go_sem];refine qb.pure ct (wk1I _) ?_;cases hT:zX n.op with
 |true =>
  simp[go_sem];refine qe.float [] [0,1,2,3] [(4,true),(5,false)] (by kernel_rfl) (by kernel_rfl) (by kernel_rfl) ?_;simp[go_sem,dgOf];exact .hf _ (zO zR (46,n.pos))
 |false =>
  rw[hT,Bool.false_or,qx]at ht;obtain⟨h47,hB⟩:=ht;have h47:n.op=47:=by simpa using h47
  simp[go_sem,h47];refine qb.pure cp (wkTP c n.name) ?_;rw[hB];simp[go_sem];refine qe.float [] [0,1,2,3] [(4,true),(5,false)] (by kernel_rfl) (by kernel_rfl) (by kernel_rfl) ?_;simp[go_sem,dgOf];exact .hf _ (zO zR (46,n.pos))
theorem qiW(c:Ck)(hc:okCk c)(s:Scp)(hsl:s.length<=100000)(inn:Bool)(n:Nd)(h1:n.op=1):ExR c s inn n:=by
 have hx:exam c s inn n=yU c s n.name n.pos:=by
  rw[vD,VB,h1,show zX 1=false from rfl];simp
 refine⟨resS (yU c s n.name n.pos),?_,fun _ q h=>by rw[hx]at h;rw[h];rfl⟩;rw[hx];have cn:=Wc c hc inn s n hsl;rw[qiT]at cn;generalize resS (yU c s n.name n.pos)=S at *
 generalize dgOf (yU c s n.name n.pos)=D at *
 refine qSQ call196 func196 rfl { mt:=[3] } ?_;have ct:=vA n.op;have cp:=ua c hc n.name;have hT:zX n.op=false:=by rw[h1];rfl
 rw[hT]at ct;have wn:=wkE c inn (envS s) n;cases inn
 case' true =>
  simp[go_sem];refine qb.pure ct (wk1I _) ?_
 all_goals
  simp[go_sem,h1];refine qb.pure cn wn ?_;simp[go_sem,qh,QE.tk,pc];rw[if_pos (qC _)];generalize hP:putCells _ 0 (aI S.1 :: hB S.2)=P;have hP2:P=aI S.1 :: hB S.2:=by rw[<-hP];exact pc (aI 0) _ (fun _=>false) _
  subst hP2;clear hP;simp[go_sem,qh,QE.tk,pc];exact .hf _ (zO S D)
theorem qiX(c:Ck)(hc:okCk c)(s:Scp)(hs:ScOk c.ts.sorts.length s)(inn:Bool)(n:Nd)(hw:WfN n)(h47:n.op=47)(ht:(inn&&yw c n.op n.name)=false)(ih:∀ k,k∈n.kids->ExR c s true k):ExR c s inn n:=by
 have hx:exam c s inn n=vY c s n:=by
  rw[vD,ht,if_neg (by simp),if_neg (by omega),if_pos h47];rfl
 have cc:=qiP c hc s hs n hw h47 ih inn;refine⟨zR,?_,fun hk=>by rw[h47]at hk;exact absurd hk (by decide)⟩;rw[hx];generalize dgOf (vY c s n)=D at *
 refine qSQ call196 func196 rfl { mt:=[3] } ?_;have ct:=vA n.op;have cp:=ua c hc n.name;have hT:zX n.op=false:=by rw[h47];rfl
 rw[hT]at ct;have wn:=wkE c inn (envS s) n;cases inn
 case' true =>
  rw[Bool.true_and,VB,hT,h47]at ht;have hB:tpB c n.name=false:=by simpa using ht
  rw[hB]at cp;simp[go_sem];refine qb.pure ct (wk1I _) ?_;simp[go_sem,h47];refine qb.pure cp (wkTP c n.name) ?_
 all_goals
  simp[go_sem,h47];refine qb.pure cc wn ?_;simp[go_sem];exact .hf _ (zO zR D)
theorem qiY(c:Ck)(hc:okCk c)(s:Scp)(hs:ScOk c.ts.sorts.length s)(hsl:s.length<=90000)(inn:Bool)(n:Nd)(hw:WfN n)(hb:n.op=15\/n.op=45\/n.op=46)(ht:(inn&&yw c n.op n.name)=false)(ih:∀ k,k∈n.kids->∀ s',ScOk c.ts.sorts.length s'->s'.length<=s.length+1->∀ inn,ExR c s' inn k):ExR c s inn n:=by
 have hx:exam c s inn n=yG c s (inn||decide (n.op=15)) n.name n.pos n.kids:=by
  rw[vD,ht,if_neg (by simp),if_neg (by omega),if_neg (by omega),if_pos hb]
 obtain⟨a,g,hks,hka⟩:=nE hw hb;have cb:=qiR c hc s hs hsl n a g hw hb hks hka inn (ih a (by rw[hks];simp) s hs (by omega) _) (fun k hk har=>ih g (by rw[hks];simp) _ (fun v hv=>by
  rcases qB.1 hv with rfl|hv
  .exact ⟨hk,har⟩
  .exact hs v hv) (by simp) _)
 refine⟨Ja (exam c s (inn||decide (n.op=15)) a),?_,fun _ q h=>?_⟩
 case refine_2 =>
  rw[hx,hks]at h;simp only[yG]at h;split at h
  .cases h
  .cases h
  .rename_i k hk
   split at h
   .rename_i har
    split at h
    .cases h
    .cases h
     rw[hk];exact if_pos har
   .cases h
 rw[hx];generalize Ja (exam c s (inn||decide (n.op=15)) a)=S at *
 generalize dgOf (yG c s (inn||decide (n.op=15)) n.name n.pos n.kids)=D at *
 refine qSQ call196 func196 rfl { mt:=[3] } ?_;have ct:=vA n.op;have cp:=ua c hc n.name;have h47:¬n.op=47:=by omega
 have hT:zX n.op=false:=by unfold zX;rcases hb with h|h|h<;>rw[h]<;>decide
 rw[hT]at ct;have wn:=wkE c inn (envS s) n;rcases hb with h|h|h
 all_goals
  rw[h]at ct;cases inn
 all_goals
  simp[go_sem,h]
  try (refine qb.pure ct (wk1I _) ?_)
  try simp[go_sem,h]
  refine qb.pure cb wn ?_;simp[go_sem,qh,QE.tk,pc];rw[if_pos (qC _)];generalize hP:putCells _ 0 (aI S.1 :: hB S.2)=P;have hP2:P=aI S.1 :: hB S.2:=by rw[<-hP];exact pc (aI 0) _ (fun _=>false) _
  subst hP2;clear hP;simp[go_sem,qh,QE.tk,pc];exact .hf _ (zO S D)
def seqL(X:Nd->Res):List Nd->Except Dg (List (Option Kd))
 | [] => .ok []
 |k :: ks=>match X k with
  | .error e => .error e
  | .ok a=>match seqL X ks with
   | .error e => .error e
   | .ok l => .ok (a :: l)
theorem nF(c:Ck)(s:Scp)(B:Bool):∀ ks:List Nd,zo c s B ks=seqL (exam c s B) ks
 | []=>by simp only[zo,seqL]
 |k :: ks=>by simp only[zo,seqL];rw[nF c s B ks];cases exam c s B k with
  |error e=>rfl
  |ok a=>cases seqL (exam c s B) ks<;>rfl
theorem ZS{α:Type}{l:List α}{a b c:α}(h0:l[0]?=some a)(h1:l[1]?=some b)(h2:l[2]?=some c):∃ r,l=a :: b :: c :: r:=by
 match l,h0,h1,h2 with
 |_ :: _ :: _ :: r,h0,h1,h2 =>
  simp at h0 h1 h2;exact⟨r,by rw[h0,h1,h2]⟩
theorem ZT{n:Nd}(hw:WfN n)(h:(n.op=5\/n.op=11\/n.op=12\/n.op=13)\/(n.op=6\/n.op=14\/n.op=7\/n.op=8\/n.op=32\/n.op=33\/n.op=9\/n.op=10)):∀ x,x∈n.kids->kd x.op=101:=by
 have hs:=hw.shape;intro x hx;have hm:kd x.op∈n.kids.map fun k=>kd k.op:=qs.2 ⟨x,hx,rfl⟩
 rcases h with h|h
 .unfold shp at hs
  rw[if_neg (by omega),if_pos (by omega)]at hs;simp only[qn]at hs;rw[<-hs]at hm;simpa using hm
 .unfold shp at hs
  rw[if_neg (by omega),if_neg (by omega),if_pos (by omega)]at hs;simp only[qn]at hs;rw[<-hs]at hm;simpa using hm
theorem qiZ(c:Ck)(hc:okCk c)(s:Scp)(n:Nd)(B:Bool)(X:Nd->Res)(S:RS)(D:Dg)(h1:¬n.op=1)(h47:¬n.op=47)(hb:¬(n.op=15\/n.op=45\/n.op=46))(hw:WfN n)(hkl:n.kids.length<=401)(hT:zX n.op=false)(h12:n.op=12)(h13:¬n.op=13)(hBt:B=true)
  (hX1:∀ k,k∈n.kids->∃ S,qi qd 196 [eVw c B,lVr (envS s),eNd k] (.tup [eRS S,eDg (dgOf (X k))])/\(kd k.op=101->∀ q,X k = .ok (some q)->S=qm q))
  (hXok:∀ k a,k∈n.kids->X k = .ok a->kd k.op=101->∃ q,a=some q/\okKd c.ts.sorts.length q)
  (hXerr:∀ k e,X k = .error e->40<=e.1)
  (hfe:∀ e,seqL X n.kids = .error e->S=zR/\D=e)
  (hfo:∀ l,seqL X n.kids = .ok l->∃ S' b,(∀ L:List RS,((n.op=5\/n.op=11\/n.op=12\/n.op=13)\/(n.op=6\/n.op=14\/n.op=7\/n.op=8\/n.op=32\/n.op=33\/n.op=9\/n.op=10)->L=l.map setO)->prC c.ts n L S' b)/\(b=true->S=S'/\D=(0,0))/\(b=false->S=zR/\D=(42,n.pos))) :
  qi qd 196 [eVw c true,lVr (envS s),eNd n] (.tup [eRS S,eDg D]):=by
 simp only[not_or]at hb;obtain⟨b1,b2,b3⟩:=hb;refine qSQ call196 func196 rfl { mt:=[3] } ?_;have ct:=vA n.op;have cp:=ua c hc n.name;rw[hT]at ct;simp[go_sem];refine qb.pure ct (wk1I _) ?_;simp[go_sem,h1,h47,b1,b2,b3];simp[go_sem,h12];refine ql.upK n.kids.length (fun k st=>∃(acc:List (Option Kd)) (L:List RS),acc.length=k/\L.length=k/\st.tm 1=lVr (envS s)/\st.tm 3 = .ptr 0 0/\st.tm 5 = .ip (cNd n)/\st.tm 6 = .ptr 1 0/\st.tm 7 = .ptr 2 0/\st.tm 9=aI k/\st.mu[0]?=some (.arr (cVw c B))/\st.mu[1]?=some (.arr (aI 0 :: hB fun _=>false))/\st.mu[2]?=some (.arr [aI 0,aI 0])/\OwnF 3 st.mu 65 (st.tm 8) (L.map cRS)/\(∀(i:Nat) x,n.kids[i]?=some x->i<k->kd x.op=101->∃ q,acc[i]?=some (some q)/\L[i]?=some (qm q))/\seqL X n.kids=(match seqL X (n.kids.drop k) with | .error e => .error e | .ok l => .ok (acc++l))) ?_ ?_
 .refine ⟨[],[],rfl,rfl,by simp[go_sem],by simp[go_sem],by simp[go_sem],by simp[go_sem],by simp[go_sem],by simp[go_sem],by rw[hBt];simp[go_sem],by simp[go_sem];rfl,by simp[go_sem],by simp[go_sem];exact OwnF.nil (by simp),fun i x _ h=>absurd h (by omega),?_⟩
  simp only[List.drop_zero,yP];cases seqL X n.kids<;>rfl
 rintro k st hk ⟨acc,L,hal,hll,e1,e3,e5,e6,e7,e9,m0,m1,m2,ho,hrel,hE⟩;generalize h8:st.tm 8=av at *
 by_cases hlt:k<n.kids.length
 .have w1:qj.wrap ((k:Int)+1)=(k:Int)+1:=qg (by omega) (by omega)
  obtain⟨Sk,ck,hk1⟩:=hX1 n.kids[k] (qu hlt);rw[zj hlt]at hE;simp only[seqL]at hE;simp[go_sem,e1,e3,e5,e6,e7,e9,h8,hlt,qo];refine qe.seg [0,1,2,3,4,5,6,7,8,9,10,11,12,13,14] [(0,0,[]),(1,0,[]),(2,0,[]),(3,0,[]),(4,0,[]),(5,0,[]),(6,0,[]),(7,1,[]),(8,0,[]),(9,0,[]),(10,0,[]),(11,2,[0,3,6]),(12,2,[0,3,6]),(13,1,[]),(14,1,[])] (by kernel_rfl) (by kernel_rfl) (by simp[go_sem]) ?_;have hml:2<st.mu.length:=(qk.1 m2).1;have hpush:∀(l:List Cell) (i:Nat),i<st.mu.length->(st.mu++l)[i]?=st.mu[i]?:=fun l i hi=>qp hi
  have p0:=fun l=>(hpush l 0 (by omega)).trans m0
  have p1:=fun l=>(hpush l 1 (by omega)).trans m1
  have p2:=fun l=>(hpush l 2 (by omega)).trans m2
  have g0:=(qk.1 m0).2;have g1:=(qk.1 m1).2;have g2:=(qk.1 m2).2;have hl0:0<st.mu.length:=by omega
  have hl1:1<st.mu.length:=by omega
  simp[go_sem,e1,e3,e5,e6,e7,e9,h8,hlt,qo,m0];refine qb.pure ck (wkE c _ _ _) ?_;cases hx:X n.kids[k] with
  |error e =>
   have he:=hXerr _ _ hx;have he0:¬e.1=0:=by omega
   rw[hx]at hE;have hE:seqL X n.kids = .error e:=hE;obtain⟨hS0,hD0⟩:=hfe e hE;rw[hS0,hD0];simp[go_sem,e1,e3,e5,e6,e7,e9,h8,hlt,qo,m0,g0,p0,hl0,qh,QE.tk,pc,he0,dgOf];rw[if_pos (qC _)];generalize hP:putCells _ 0 (cRS Sk)=P;have hP2:P=cRS Sk:=by rw[<-hP];exact pc (aI 0) _ (fun _=>false) _
   subst hP2;clear hP;simp[go_sem,e1,e3,e5,e6,e7,e9,h8,hlt,qo,m0,g0,p0,hl0,qh,QE.tk,pc,he0,dgOf];refine qe.seg [0,1,2,3] [(0,0,[]),(1,0,[]),(2,1,[1]),(3,1,[])] (by kernel_rfl) (by kernel_rfl) (by simp[go_sem]) ?_;simp[go_sem,e1,e3,e5,e6,e7,e9,h8,hlt,qo,m0,g0,p0,hl0,qh,QE.tk,pc,he0,dgOf,p1,p2,g1,g2,hl1,hml];exact .hf _ (zO zR e)
  |ok a =>
   rw[hx]at hE;simp only at hE;simp[go_sem,e1,e3,e5,e6,e7,e9,h8,hlt,qo,m0,g0,p0,hl0,qh,QE.tk,pc,dgOf];rw[if_pos (qC _)];generalize hP:putCells _ 0 (cRS Sk)=P;have hP2:P=cRS Sk:=by rw[<-hP];exact pc (aI 0) _ (fun _=>false) _
   subst hP2;clear hP;simp[go_sem,e1,e3,e5,e6,e7,e9,h8,hlt,qo,m0,g0,p0,hl0,qh,QE.tk,pc,dgOf];rw[if_pos (qC _)];simp[go_sem,e1,e3,e5,e6,e7,e9,h8,hlt];refine ZQ (lo:=3) (xs:=L) (ys:=[Sk]) ⟨by simpa using jB (jB ho.1 _) _,ho.2.1,by have:=ho.2.2;simp;omega⟩ (by simp[qG]) (by simp;omega) fun av' m' ho' hm'=>?_
   simp[go_sem,e1,e3,e5,e6,e7,e9,h8,hlt,w1];refine Keep.mk' ⟨acc++[a],L++[Sk],by simp[hal],by simp[hll],by simp[go_sem,e1],by simp[go_sem,e3],by simp[go_sem,e5],by simp[go_sem,e6],by simp[go_sem,e7],by simp[go_sem],?_,?_,?_,by simpa[go_sem] using ho',fun i x hi hik hkd=>?_,?_⟩
   .simp only[qL];exact(hm' 0 (by omega)).trans (p0 _)
   .simp only[qL];exact(hm' 1 (by omega)).trans (p1 _)
   .simp only[qL];exact(hm' 2 (by omega)).trans (p2 _)
   .by_cases hik2:i=k
    .subst hik2
     rw[qv hlt]at hi;cases hi;obtain⟨q,rfl,_⟩:=hXok _ a (qu hlt) hx hkd;refine⟨q,?_,?_⟩
     .rw [qV (by omega),hal];simp
     .rw [qV (by omega),hll];simp[hk1 hkd q hx]
    .obtain ⟨q,q1,q2⟩:=hrel i x hi (by omega) hkd
     exact⟨q,by rw[qp (by omega)];exact q1,by rw[qp (by omega)];exact q2⟩
   .rw [hE]
    cases seqL X (n.kids.drop (k+1)) with
    |error e=>rfl
    |ok l=>simp
 .have hkl':k=n.kids.length:=by omega
  subst hkl';rw[zL]at hE;have hE:seqL X n.kids = .ok acc:=by rw[hE];simp only[seqL,zx]
  obtain⟨S',b,q1,q2,q3⟩:=hfo acc hE;have hL:((n.op=5\/n.op=11\/n.op=12\/n.op=13)\/(n.op=6\/n.op=14\/n.op=7\/n.op=8\/n.op=32\/n.op=33\/n.op=9\/n.op=10))->L=acc.map setO:=fun h=>by
   have hkd:∀ x,x∈n.kids->kd x.op=101:=fun x hx=>ZT hw h x hx
   refine jj fun i=>?_
   by_cases hi:i<n.kids.length
   .obtain ⟨q,e1,e2⟩:=hrel i n.kids[i] (by simp[hi]) hi (hkd _ (qu hi))
    rw[e2,zk,e1];rfl
   .rw [zQ (by omega),zQ (by simp;omega)]
  have hp:=q1 L hL;unfold prC at hp;have hml:2<st.mu.length:=(qk.1 m2).1;have hpush:∀(l:List Cell) (i:Nat),i<st.mu.length->(st.mu++l)[i]?=st.mu[i]?:=fun l i hi=>qp hi
  obtain⟨rr,hrr⟩:=ZS m0 m1 m2;simp[go_sem,e1,e3,e5,e6,e7,e9,h8,qo,m0];refine qb.lend (args':=[eTS c.ts,eNd n,lRS L]) hp ⟨.hf _ (zl _),.hf _ (qI n),rdRS ho,trivial⟩ (ZR S' b) ?_;have hrl:st.mu.length=rr.length+3:=by rw[hrr];rfl
  clear m0 m1 m2 hpush ho;simp[go_sem,e1,e3,e5,e6,e7,e9,h8,qo,hrr,qh,QE.tk,pc];rw[if_pos (qC _)];generalize hP:putCells _ 0 (cRS S')=P;have hP2:P=cRS S':=by rw[<-hP];exact pc (aI 0) _ (fun _=>false) _
  subst hP2;clear hP;cases b with
  |true =>
   obtain⟨rfl,rfl⟩:=q2 rfl;simp[go_sem,e1,e3,e5,e6,e7,e9,h8,hrr,qh,QE.tk,pc];rw[if_pos (qC _)];simp[go_sem,e1,e3,e5,e6,e7,e9,h8,hrr,qh,QE.tk,pc];exact .hf _ (zO S (0,0))
  |false =>
   obtain⟨rfl,rfl⟩:=q3 rfl;simp[go_sem,e1,e3,e5,e6,e7,e9,h8,hrr,qh,QE.tk,pc];refine qe.seg [0,1,2,3,4,5] [(0,0,[]),(1,0,[]),(2,0,[]),(3,0,[]),(4,1,[2]),(5,1,[])] (by kernel_rfl) (by kernel_rfl) (by simp[go_sem]) ?_;simp[go_sem,e1,e3,e5,e6,e7,e9,h8,hrr,qh,QE.tk,pc];exact .hf _ (zO zR (42,n.pos))
theorem qi0(c:Ck)(hc:okCk c)(s:Scp)(n:Nd)(B:Bool)(X:Nd->Res)(S:RS)(D:Dg)(h1:¬n.op=1)(h47:¬n.op=47)(hb:¬(n.op=15\/n.op=45\/n.op=46))(hw:WfN n)(hkl:n.kids.length<=401)(hT:zX n.op=false)(h12:¬n.op=12)(h13:n.op=13)(hBt:B=true)
  (hX1:∀ k,k∈n.kids->∃ S,qi qd 196 [eVw c B,lVr (envS s),eNd k] (.tup [eRS S,eDg (dgOf (X k))])/\(kd k.op=101->∀ q,X k = .ok (some q)->S=qm q))
  (hXok:∀ k a,k∈n.kids->X k = .ok a->kd k.op=101->∃ q,a=some q/\okKd c.ts.sorts.length q)
  (hXerr:∀ k e,X k = .error e->40<=e.1)
  (hfe:∀ e,seqL X n.kids = .error e->S=zR/\D=e)
  (hfo:∀ l,seqL X n.kids = .ok l->∃ S' b,(∀ L:List RS,((n.op=5\/n.op=11\/n.op=12\/n.op=13)\/(n.op=6\/n.op=14\/n.op=7\/n.op=8\/n.op=32\/n.op=33\/n.op=9\/n.op=10)->L=l.map setO)->prC c.ts n L S' b)/\(b=true->S=S'/\D=(0,0))/\(b=false->S=zR/\D=(42,n.pos))) :
  qi qd 196 [eVw c true,lVr (envS s),eNd n] (.tup [eRS S,eDg D]):=by
 simp only[not_or]at hb;obtain⟨b1,b2,b3⟩:=hb;refine qSQ call196 func196 rfl { mt:=[3] } ?_;have ct:=vA n.op;have cp:=ua c hc n.name;rw[hT]at ct;simp[go_sem];refine qb.pure ct (wk1I _) ?_;simp[go_sem,h1,h47,b1,b2,b3];simp[go_sem,h12,h13];refine ql.upK n.kids.length (fun k st=>∃(acc:List (Option Kd)) (L:List RS),acc.length=k/\L.length=k/\st.tm 1=lVr (envS s)/\st.tm 3 = .ptr 0 0/\st.tm 5 = .ip (cNd n)/\st.tm 6 = .ptr 1 0/\st.tm 7 = .ptr 2 0/\st.tm 9=aI k/\st.mu[0]?=some (.arr (cVw c B))/\st.mu[1]?=some (.arr (aI 0 :: hB fun _=>false))/\st.mu[2]?=some (.arr [aI 0,aI 0])/\OwnF 3 st.mu 65 (st.tm 8) (L.map cRS)/\(∀(i:Nat) x,n.kids[i]?=some x->i<k->kd x.op=101->∃ q,acc[i]?=some (some q)/\L[i]?=some (qm q))/\seqL X n.kids=(match seqL X (n.kids.drop k) with | .error e => .error e | .ok l => .ok (acc++l))) ?_ ?_
 .refine ⟨[],[],rfl,rfl,by simp[go_sem],by simp[go_sem],by simp[go_sem],by simp[go_sem],by simp[go_sem],by simp[go_sem],by rw[hBt];simp[go_sem],by simp[go_sem];rfl,by simp[go_sem],by simp[go_sem];exact OwnF.nil (by simp),fun i x _ h=>absurd h (by omega),?_⟩
  simp only[List.drop_zero,yP];cases seqL X n.kids<;>rfl
 rintro k st hk ⟨acc,L,hal,hll,e1,e3,e5,e6,e7,e9,m0,m1,m2,ho,hrel,hE⟩;generalize h8:st.tm 8=av at *
 by_cases hlt:k<n.kids.length
 .have w1:qj.wrap ((k:Int)+1)=(k:Int)+1:=qg (by omega) (by omega)
  obtain⟨Sk,ck,hk1⟩:=hX1 n.kids[k] (qu hlt);rw[zj hlt]at hE;simp only[seqL]at hE;simp[go_sem,e1,e3,e5,e6,e7,e9,h8,hlt,qo];refine qe.seg [0,1,2,3,4,5,6,7,8,9,10,11,12,13,14] [(0,0,[]),(1,0,[]),(2,0,[]),(3,0,[]),(4,0,[]),(5,0,[]),(6,0,[]),(7,1,[]),(8,0,[]),(9,0,[]),(10,0,[]),(11,2,[0,3,6]),(12,2,[0,3,6]),(13,1,[]),(14,1,[])] (by kernel_rfl) (by kernel_rfl) (by simp[go_sem]) ?_;have hml:2<st.mu.length:=(qk.1 m2).1;have hpush:∀(l:List Cell) (i:Nat),i<st.mu.length->(st.mu++l)[i]?=st.mu[i]?:=fun l i hi=>qp hi
  have p0:=fun l=>(hpush l 0 (by omega)).trans m0
  have p1:=fun l=>(hpush l 1 (by omega)).trans m1
  have p2:=fun l=>(hpush l 2 (by omega)).trans m2
  have g0:=(qk.1 m0).2;have g1:=(qk.1 m1).2;have g2:=(qk.1 m2).2;have hl0:0<st.mu.length:=by omega
  have hl1:1<st.mu.length:=by omega
  simp[go_sem,e1,e3,e5,e6,e7,e9,h8,hlt,qo,m0];refine qb.pure ck (wkE c _ _ _) ?_;cases hx:X n.kids[k] with
  |error e =>
   have he:=hXerr _ _ hx;have he0:¬e.1=0:=by omega
   rw[hx]at hE;have hE:seqL X n.kids = .error e:=hE;obtain⟨hS0,hD0⟩:=hfe e hE;rw[hS0,hD0];simp[go_sem,e1,e3,e5,e6,e7,e9,h8,hlt,qo,m0,g0,p0,hl0,qh,QE.tk,pc,he0,dgOf];rw[if_pos (qC _)];generalize hP:putCells _ 0 (cRS Sk)=P;have hP2:P=cRS Sk:=by rw[<-hP];exact pc (aI 0) _ (fun _=>false) _
   subst hP2;clear hP;simp[go_sem,e1,e3,e5,e6,e7,e9,h8,hlt,qo,m0,g0,p0,hl0,qh,QE.tk,pc,he0,dgOf];refine qe.seg [0,1,2,3] [(0,0,[]),(1,0,[]),(2,1,[1]),(3,1,[])] (by kernel_rfl) (by kernel_rfl) (by simp[go_sem]) ?_;simp[go_sem,e1,e3,e5,e6,e7,e9,h8,hlt,qo,m0,g0,p0,hl0,qh,QE.tk,pc,he0,dgOf,p1,p2,g1,g2,hl1,hml];exact .hf _ (zO zR e)
  |ok a =>
   rw[hx]at hE;simp only at hE;simp[go_sem,e1,e3,e5,e6,e7,e9,h8,hlt,qo,m0,g0,p0,hl0,qh,QE.tk,pc,dgOf];rw[if_pos (qC _)];generalize hP:putCells _ 0 (cRS Sk)=P;have hP2:P=cRS Sk:=by rw[<-hP];exact pc (aI 0) _ (fun _=>false) _
   subst hP2;clear hP;simp[go_sem,e1,e3,e5,e6,e7,e9,h8,hlt,qo,m0,g0,p0,hl0,qh,QE.tk,pc,dgOf];rw[if_pos (qC _)];simp[go_sem,e1,e3,e5,e6,e7,e9,h8,hlt];refine ZQ (lo:=3) (xs:=L) (ys:=[Sk]) ⟨by simpa using jB (jB ho.1 _) _,ho.2.1,by have:=ho.2.2;simp;omega⟩ (by simp[qG]) (by simp;omega) fun av' m' ho' hm'=>?_
   simp[go_sem,e1,e3,e5,e6,e7,e9,h8,hlt,w1];refine Keep.mk' ⟨acc++[a],L++[Sk],by simp[hal],by simp[hll],by simp[go_sem,e1],by simp[go_sem,e3],by simp[go_sem,e5],by simp[go_sem,e6],by simp[go_sem,e7],by simp[go_sem],?_,?_,?_,by simpa[go_sem] using ho',fun i x hi hik hkd=>?_,?_⟩
   .simp only[qL];exact(hm' 0 (by omega)).trans (p0 _)
   .simp only[qL];exact(hm' 1 (by omega)).trans (p1 _)
   .simp only[qL];exact(hm' 2 (by omega)).trans (p2 _)
   .by_cases hik2:i=k
    .subst hik2
     rw[qv hlt]at hi;cases hi;obtain⟨q,rfl,_⟩:=hXok _ a (qu hlt) hx hkd;refine⟨q,?_,?_⟩
     .rw [qV (by omega),hal];simp
     .rw [qV (by omega),hll];simp[hk1 hkd q hx]
    .obtain ⟨q,q1,q2⟩:=hrel i x hi (by omega) hkd
     exact⟨q,by rw[qp (by omega)];exact q1,by rw[qp (by omega)];exact q2⟩
   .rw [hE]
    cases seqL X (n.kids.drop (k+1)) with
    |error e=>rfl
    |ok l=>simp
 .have hkl':k=n.kids.length:=by omega
  subst hkl';rw[zL]at hE;have hE:seqL X n.kids = .ok acc:=by rw[hE];simp only[seqL,zx]
  obtain⟨S',b,q1,q2,q3⟩:=hfo acc hE;have hL:((n.op=5\/n.op=11\/n.op=12\/n.op=13)\/(n.op=6\/n.op=14\/n.op=7\/n.op=8\/n.op=32\/n.op=33\/n.op=9\/n.op=10))->L=acc.map setO:=fun h=>by
   have hkd:∀ x,x∈n.kids->kd x.op=101:=fun x hx=>ZT hw h x hx
   refine jj fun i=>?_
   by_cases hi:i<n.kids.length
   .obtain ⟨q,e1,e2⟩:=hrel i n.kids[i] (by simp[hi]) hi (hkd _ (qu hi))
    rw[e2,zk,e1];rfl
   .rw [zQ (by omega),zQ (by simp;omega)]
  have hp:=q1 L hL;unfold prC at hp;have hml:2<st.mu.length:=(qk.1 m2).1;have hpush:∀(l:List Cell) (i:Nat),i<st.mu.length->(st.mu++l)[i]?=st.mu[i]?:=fun l i hi=>qp hi
  obtain⟨rr,hrr⟩:=ZS m0 m1 m2;simp[go_sem,e1,e3,e5,e6,e7,e9,h8,qo,m0];refine qb.lend (args':=[eTS c.ts,eNd n,lRS L]) hp ⟨.hf _ (zl _),.hf _ (qI n),rdRS ho,trivial⟩ (ZR S' b) ?_;have hrl:st.mu.length=rr.length+3:=by rw[hrr];rfl
  clear m0 m1 m2 hpush ho;simp[go_sem,e1,e3,e5,e6,e7,e9,h8,qo,hrr,qh,QE.tk,pc];rw[if_pos (qC _)];generalize hP:putCells _ 0 (cRS S')=P;have hP2:P=cRS S':=by rw[<-hP];exact pc (aI 0) _ (fun _=>false) _
  subst hP2;clear hP;cases b with
  |true =>
   obtain⟨rfl,rfl⟩:=q2 rfl;simp[go_sem,e1,e3,e5,e6,e7,e9,h8,hrr,qh,QE.tk,pc];rw[if_pos (qC _)];simp[go_sem,e1,e3,e5,e6,e7,e9,h8,hrr,qh,QE.tk,pc];exact .hf _ (zO S (0,0))
  |false =>
   obtain⟨rfl,rfl⟩:=q3 rfl;simp[go_sem,e1,e3,e5,e6,e7,e9,h8,hrr,qh,QE.tk,pc];refine qe.seg [0,1,2,3,4,5] [(0,0,[]),(1,0,[]),(2,0,[]),(3,0,[]),(4,1,[2]),(5,1,[])] (by kernel_rfl) (by kernel_rfl) (by simp[go_sem]) ?_;simp[go_sem,e1,e3,e5,e6,e7,e9,h8,hrr,qh,QE.tk,pc];exact .hf _ (zO zR (42,n.pos))
theorem qi1(c:Ck)(hc:okCk c)(s:Scp)(n:Nd)(B:Bool)(X:Nd->Res)(S:RS)(D:Dg)(h1:¬n.op=1)(h47:¬n.op=47)(hb:¬(n.op=15\/n.op=45\/n.op=46))(hw:WfN n)(hkl:n.kids.length<=401)(hT:zX n.op=false)(h12:¬n.op=12)(h13:¬n.op=13)(hBt:B=true)
  (hX1:∀ k,k∈n.kids->∃ S,qi qd 196 [eVw c B,lVr (envS s),eNd k] (.tup [eRS S,eDg (dgOf (X k))])/\(kd k.op=101->∀ q,X k = .ok (some q)->S=qm q))
  (hXok:∀ k a,k∈n.kids->X k = .ok a->kd k.op=101->∃ q,a=some q/\okKd c.ts.sorts.length q)
  (hXerr:∀ k e,X k = .error e->40<=e.1)
  (hfe:∀ e,seqL X n.kids = .error e->S=zR/\D=e)
  (hfo:∀ l,seqL X n.kids = .ok l->∃ S' b,(∀ L:List RS,((n.op=5\/n.op=11\/n.op=12\/n.op=13)\/(n.op=6\/n.op=14\/n.op=7\/n.op=8\/n.op=32\/n.op=33\/n.op=9\/n.op=10)->L=l.map setO)->prC c.ts n L S' b)/\(b=true->S=S'/\D=(0,0))/\(b=false->S=zR/\D=(42,n.pos))) :
  qi qd 196 [eVw c true,lVr (envS s),eNd n] (.tup [eRS S,eDg D]):=by
 simp only[not_or]at hb;obtain⟨b1,b2,b3⟩:=hb;refine qSQ call196 func196 rfl { mt:=[3] } ?_;have ct:=vA n.op;have cp:=ua c hc n.name;rw[hT]at ct;simp[go_sem];refine qb.pure ct (wk1I _) ?_;simp[go_sem,h1,h47,b1,b2,b3];simp[go_sem,h12,h13];refine ql.upK n.kids.length (fun k st=>∃(acc:List (Option Kd)) (L:List RS),acc.length=k/\L.length=k/\st.tm 1=lVr (envS s)/\st.tm 3 = .ptr 0 0/\st.tm 5 = .ip (cNd n)/\st.tm 6 = .ptr 1 0/\st.tm 7 = .ptr 2 0/\st.tm 9=aI k/\st.mu[0]?=some (.arr (cVw c B))/\st.mu[1]?=some (.arr (aI 0 :: hB fun _=>false))/\st.mu[2]?=some (.arr [aI 0,aI 0])/\OwnF 3 st.mu 65 (st.tm 8) (L.map cRS)/\(∀(i:Nat) x,n.kids[i]?=some x->i<k->kd x.op=101->∃ q,acc[i]?=some (some q)/\L[i]?=some (qm q))/\seqL X n.kids=(match seqL X (n.kids.drop k) with | .error e => .error e | .ok l => .ok (acc++l))) ?_ ?_
 .refine ⟨[],[],rfl,rfl,by simp[go_sem],by simp[go_sem],by simp[go_sem],by simp[go_sem],by simp[go_sem],by simp[go_sem],by rw[hBt];simp[go_sem],by simp[go_sem];rfl,by simp[go_sem],by simp[go_sem];exact OwnF.nil (by simp),fun i x _ h=>absurd h (by omega),?_⟩
  simp only[List.drop_zero,yP];cases seqL X n.kids<;>rfl
 rintro k st hk ⟨acc,L,hal,hll,e1,e3,e5,e6,e7,e9,m0,m1,m2,ho,hrel,hE⟩;generalize h8:st.tm 8=av at *
 by_cases hlt:k<n.kids.length
 .have w1:qj.wrap ((k:Int)+1)=(k:Int)+1:=qg (by omega) (by omega)
  obtain⟨Sk,ck,hk1⟩:=hX1 n.kids[k] (qu hlt);rw[zj hlt]at hE;simp only[seqL]at hE;simp[go_sem,e1,e3,e5,e6,e7,e9,h8,hlt,qo];refine qe.seg [0,1,2,3,4,5,6,7,8,9,10,11,12,13,14] [(0,0,[]),(1,0,[]),(2,0,[]),(3,0,[]),(4,0,[]),(5,0,[]),(6,0,[]),(7,1,[]),(8,0,[]),(9,0,[]),(10,0,[]),(11,2,[0,3,6]),(12,2,[0,3,6]),(13,1,[]),(14,1,[])] (by kernel_rfl) (by kernel_rfl) (by simp[go_sem]) ?_;have hml:2<st.mu.length:=(qk.1 m2).1;have hpush:∀(l:List Cell) (i:Nat),i<st.mu.length->(st.mu++l)[i]?=st.mu[i]?:=fun l i hi=>qp hi
  have p0:=fun l=>(hpush l 0 (by omega)).trans m0
  have p1:=fun l=>(hpush l 1 (by omega)).trans m1
  have p2:=fun l=>(hpush l 2 (by omega)).trans m2
  have g0:=(qk.1 m0).2;have g1:=(qk.1 m1).2;have g2:=(qk.1 m2).2;have hl0:0<st.mu.length:=by omega
  have hl1:1<st.mu.length:=by omega
  simp[go_sem,e1,e3,e5,e6,e7,e9,h8,hlt,qo,m0];refine qb.pure ck (wkE c _ _ _) ?_;cases hx:X n.kids[k] with
  |error e =>
   have he:=hXerr _ _ hx;have he0:¬e.1=0:=by omega
   rw[hx]at hE;have hE:seqL X n.kids = .error e:=hE;obtain⟨hS0,hD0⟩:=hfe e hE;rw[hS0,hD0];simp[go_sem,e1,e3,e5,e6,e7,e9,h8,hlt,qo,m0,g0,p0,hl0,qh,QE.tk,pc,he0,dgOf];rw[if_pos (qC _)];generalize hP:putCells _ 0 (cRS Sk)=P;have hP2:P=cRS Sk:=by rw[<-hP];exact pc (aI 0) _ (fun _=>false) _
   subst hP2;clear hP;simp[go_sem,e1,e3,e5,e6,e7,e9,h8,hlt,qo,m0,g0,p0,hl0,qh,QE.tk,pc,he0,dgOf];refine qe.seg [0,1,2,3] [(0,0,[]),(1,0,[]),(2,1,[1]),(3,1,[])] (by kernel_rfl) (by kernel_rfl) (by simp[go_sem]) ?_;simp[go_sem,e1,e3,e5,e6,e7,e9,h8,hlt,qo,m0,g0,p0,hl0,qh,QE.tk,pc,he0,dgOf,p1,p2,g1,g2,hl1,hml];exact .hf _ (zO zR e)
  |ok a =>
   rw[hx]at hE;simp only at hE;simp[go_sem,e1,e3,e5,e6,e7,e9,h8,hlt,qo,m0,g0,p0,hl0,qh,QE.tk,pc,dgOf];rw[if_pos (qC _)];generalize hP:putCells _ 0 (cRS Sk)=P;have hP2:P=cRS Sk:=by rw[<-hP];exact pc (aI 0) _ (fun _=>false) _
   subst hP2;clear hP;simp[go_sem,e1,e3,e5,e6,e7,e9,h8,hlt,qo,m0,g0,p0,hl0,qh,QE.tk,pc,dgOf];rw[if_pos (qC _)];simp[go_sem,e1,e3,e5,e6,e7,e9,h8,hlt];refine ZQ (lo:=3) (xs:=L) (ys:=[Sk]) ⟨by simpa using jB (jB ho.1 _) _,ho.2.1,by have:=ho.2.2;simp;omega⟩ (by simp[qG]) (by simp;omega) fun av' m' ho' hm'=>?_
   simp[go_sem,e1,e3,e5,e6,e7,e9,h8,hlt,w1];refine Keep.mk' ⟨acc++[a],L++[Sk],by simp[hal],by simp[hll],by simp[go_sem,e1],by simp[go_sem,e3],by simp[go_sem,e5],by simp[go_sem,e6],by simp[go_sem,e7],by simp[go_sem],?_,?_,?_,by simpa[go_sem] using ho',fun i x hi hik hkd=>?_,?_⟩
   .simp only[qL];exact(hm' 0 (by omega)).trans (p0 _)
   .simp only[qL];exact(hm' 1 (by omega)).trans (p1 _)
   .simp only[qL];exact(hm' 2 (by omega)).trans (p2 _)
   .by_cases hik2:i=k
    .subst hik2
     rw[qv hlt]at hi;cases hi;obtain⟨q,rfl,_⟩:=hXok _ a (qu hlt) hx hkd;refine⟨q,?_,?_⟩
     .rw [qV (by omega),hal];simp
     .rw [qV (by omega),hll];simp[hk1 hkd q hx]
    .obtain ⟨q,q1,q2⟩:=hrel i x hi (by omega) hkd
     exact⟨q,by rw[qp (by omega)];exact q1,by rw[qp (by omega)];exact q2⟩
   .rw [hE]
    cases seqL X (n.kids.drop (k+1)) with
    |error e=>rfl
    |ok l=>simp
 .have hkl':k=n.kids.length:=by omega
  subst hkl';rw[zL]at hE;have hE:seqL X n.kids = .ok acc:=by rw[hE];simp only[seqL,zx]
  obtain⟨S',b,q1,q2,q3⟩:=hfo acc hE;have hL:((n.op=5\/n.op=11\/n.op=12\/n.op=13)\/(n.op=6\/n.op=14\/n.op=7\/n.op=8\/n.op=32\/n.op=33\/n.op=9\/n.op=10))->L=acc.map setO:=fun h=>by
   have hkd:∀ x,x∈n.kids->kd x.op=101:=fun x hx=>ZT hw h x hx
   refine jj fun i=>?_
   by_cases hi:i<n.kids.length
   .obtain ⟨q,e1,e2⟩:=hrel i n.kids[i] (by simp[hi]) hi (hkd _ (qu hi))
    rw[e2,zk,e1];rfl
   .rw [zQ (by omega),zQ (by simp;omega)]
  have hp:=q1 L hL;unfold prC at hp;have hml:2<st.mu.length:=(qk.1 m2).1;have hpush:∀(l:List Cell) (i:Nat),i<st.mu.length->(st.mu++l)[i]?=st.mu[i]?:=fun l i hi=>qp hi
  obtain⟨rr,hrr⟩:=ZS m0 m1 m2;simp[go_sem,e1,e3,e5,e6,e7,e9,h8,qo,m0];refine qb.lend (args':=[eTS c.ts,eNd n,lRS L]) hp ⟨.hf _ (zl _),.hf _ (qI n),rdRS ho,trivial⟩ (ZR S' b) ?_;have hrl:st.mu.length=rr.length+3:=by rw[hrr];rfl
  clear m0 m1 m2 hpush ho;simp[go_sem,e1,e3,e5,e6,e7,e9,h8,qo,hrr,qh,QE.tk,pc];rw[if_pos (qC _)];generalize hP:putCells _ 0 (cRS S')=P;have hP2:P=cRS S':=by rw[<-hP];exact pc (aI 0) _ (fun _=>false) _
  subst hP2;clear hP;cases b with
  |true =>
   obtain⟨rfl,rfl⟩:=q2 rfl;simp[go_sem,e1,e3,e5,e6,e7,e9,h8,hrr,qh,QE.tk,pc];rw[if_pos (qC _)];simp[go_sem,e1,e3,e5,e6,e7,e9,h8,hrr,qh,QE.tk,pc];exact .hf _ (zO S (0,0))
  |false =>
   obtain⟨rfl,rfl⟩:=q3 rfl;simp[go_sem,e1,e3,e5,e6,e7,e9,h8,hrr,qh,QE.tk,pc];refine qe.seg [0,1,2,3,4,5] [(0,0,[]),(1,0,[]),(2,0,[]),(3,0,[]),(4,1,[2]),(5,1,[])] (by kernel_rfl) (by kernel_rfl) (by simp[go_sem]) ?_;simp[go_sem,e1,e3,e5,e6,e7,e9,h8,hrr,qh,QE.tk,pc];exact .hf _ (zO zR (42,n.pos))
theorem qi2(c:Ck)(hc:okCk c)(s:Scp)(n:Nd)(B:Bool)(X:Nd->Res)(S:RS)(D:Dg)(h1:¬n.op=1)(h47:¬n.op=47)(hb:¬(n.op=15\/n.op=45\/n.op=46))(hw:WfN n)(hkl:n.kids.length<=401)(hT:True)(h12:n.op=12)(h13:¬n.op=13)(hBt:B=true)
  (hX1:∀ k,k∈n.kids->∃ S,qi qd 196 [eVw c B,lVr (envS s),eNd k] (.tup [eRS S,eDg (dgOf (X k))])/\(kd k.op=101->∀ q,X k = .ok (some q)->S=qm q))
  (hXok:∀ k a,k∈n.kids->X k = .ok a->kd k.op=101->∃ q,a=some q/\okKd c.ts.sorts.length q)
  (hXerr:∀ k e,X k = .error e->40<=e.1)
  (hfe:∀ e,seqL X n.kids = .error e->S=zR/\D=e)
  (hfo:∀ l,seqL X n.kids = .ok l->∃ S' b,(∀ L:List RS,((n.op=5\/n.op=11\/n.op=12\/n.op=13)\/(n.op=6\/n.op=14\/n.op=7\/n.op=8\/n.op=32\/n.op=33\/n.op=9\/n.op=10)->L=l.map setO)->prC c.ts n L S' b)/\(b=true->S=S'/\D=(0,0))/\(b=false->S=zR/\D=(42,n.pos))) :
  qi qd 196 [eVw c false,lVr (envS s),eNd n] (.tup [eRS S,eDg D]):=by
 simp only[not_or]at hb;obtain⟨b1,b2,b3⟩:=hb;refine qSQ call196 func196 rfl { mt:=[3] } ?_;have ct:=vA n.op;have cp:=ua c hc n.name;simp[go_sem,h1,h47,b1,b2,b3];simp[go_sem,h12];refine ql.upK n.kids.length (fun k st=>∃(acc:List (Option Kd)) (L:List RS),acc.length=k/\L.length=k/\st.tm 1=lVr (envS s)/\st.tm 3 = .ptr 0 0/\st.tm 5 = .ip (cNd n)/\st.tm 6 = .ptr 1 0/\st.tm 7 = .ptr 2 0/\st.tm 9=aI k/\st.mu[0]?=some (.arr (cVw c B))/\st.mu[1]?=some (.arr (aI 0 :: hB fun _=>false))/\st.mu[2]?=some (.arr [aI 0,aI 0])/\OwnF 3 st.mu 65 (st.tm 8) (L.map cRS)/\(∀(i:Nat) x,n.kids[i]?=some x->i<k->kd x.op=101->∃ q,acc[i]?=some (some q)/\L[i]?=some (qm q))/\seqL X n.kids=(match seqL X (n.kids.drop k) with | .error e => .error e | .ok l => .ok (acc++l))) ?_ ?_
 .refine ⟨[],[],rfl,rfl,by simp[go_sem],by simp[go_sem],by simp[go_sem],by simp[go_sem],by simp[go_sem],by simp[go_sem],by rw[hBt];simp[go_sem],by simp[go_sem];rfl,by simp[go_sem],by simp[go_sem];exact OwnF.nil (by simp),fun i x _ h=>absurd h (by omega),?_⟩
  simp only[List.drop_zero,yP];cases seqL X n.kids<;>rfl
 rintro k st hk ⟨acc,L,hal,hll,e1,e3,e5,e6,e7,e9,m0,m1,m2,ho,hrel,hE⟩;generalize h8:st.tm 8=av at *
 by_cases hlt:k<n.kids.length
 .have w1:qj.wrap ((k:Int)+1)=(k:Int)+1:=qg (by omega) (by omega)
  obtain⟨Sk,ck,hk1⟩:=hX1 n.kids[k] (qu hlt);rw[zj hlt]at hE;simp only[seqL]at hE;simp[go_sem,e1,e3,e5,e6,e7,e9,h8,hlt,qo];refine qe.seg [0,1,2,3,4,5,6,7,8,9,10,11,12,13,14] [(0,0,[]),(1,0,[]),(2,0,[]),(3,0,[]),(4,0,[]),(5,0,[]),(6,0,[]),(7,1,[]),(8,0,[]),(9,0,[]),(10,0,[]),(11,2,[0,3,6]),(12,2,[0,3,6]),(13,1,[]),(14,1,[])] (by kernel_rfl) (by kernel_rfl) (by simp[go_sem]) ?_;have hml:2<st.mu.length:=(qk.1 m2).1;have hpush:∀(l:List Cell) (i:Nat),i<st.mu.length->(st.mu++l)[i]?=st.mu[i]?:=fun l i hi=>qp hi
  have p0:=fun l=>(hpush l 0 (by omega)).trans m0
  have p1:=fun l=>(hpush l 1 (by omega)).trans m1
  have p2:=fun l=>(hpush l 2 (by omega)).trans m2
  have g0:=(qk.1 m0).2;have g1:=(qk.1 m1).2;have g2:=(qk.1 m2).2;have hl0:0<st.mu.length:=by omega
  have hl1:1<st.mu.length:=by omega
  simp[go_sem,e1,e3,e5,e6,e7,e9,h8,hlt,qo,m0];refine qb.pure ck (wkE c _ _ _) ?_;cases hx:X n.kids[k] with
  |error e =>
   have he:=hXerr _ _ hx;have he0:¬e.1=0:=by omega
   rw[hx]at hE;have hE:seqL X n.kids = .error e:=hE;obtain⟨hS0,hD0⟩:=hfe e hE;rw[hS0,hD0];simp[go_sem,e1,e3,e5,e6,e7,e9,h8,hlt,qo,m0,g0,p0,hl0,qh,QE.tk,pc,he0,dgOf];rw[if_pos (qC _)];generalize hP:putCells _ 0 (cRS Sk)=P;have hP2:P=cRS Sk:=by rw[<-hP];exact pc (aI 0) _ (fun _=>false) _
   subst hP2;clear hP;simp[go_sem,e1,e3,e5,e6,e7,e9,h8,hlt,qo,m0,g0,p0,hl0,qh,QE.tk,pc,he0,dgOf];refine qe.seg [0,1,2,3] [(0,0,[]),(1,0,[]),(2,1,[1]),(3,1,[])] (by kernel_rfl) (by kernel_rfl) (by simp[go_sem]) ?_;simp[go_sem,e1,e3,e5,e6,e7,e9,h8,hlt,qo,m0,g0,p0,hl0,qh,QE.tk,pc,he0,dgOf,p1,p2,g1,g2,hl1,hml];exact .hf _ (zO zR e)
  |ok a =>
   rw[hx]at hE;simp only at hE;simp[go_sem,e1,e3,e5,e6,e7,e9,h8,hlt,qo,m0,g0,p0,hl0,qh,QE.tk,pc,dgOf];rw[if_pos (qC _)];generalize hP:putCells _ 0 (cRS Sk)=P;have hP2:P=cRS Sk:=by rw[<-hP];exact pc (aI 0) _ (fun _=>false) _
   subst hP2;clear hP;simp[go_sem,e1,e3,e5,e6,e7,e9,h8,hlt,qo,m0,g0,p0,hl0,qh,QE.tk,pc,dgOf];rw[if_pos (qC _)];simp[go_sem,e1,e3,e5,e6,e7,e9,h8,hlt];refine ZQ (lo:=3) (xs:=L) (ys:=[Sk]) ⟨by simpa using jB (jB ho.1 _) _,ho.2.1,by have:=ho.2.2;simp;omega⟩ (by simp[qG]) (by simp;omega) fun av' m' ho' hm'=>?_
   simp[go_sem,e1,e3,e5,e6,e7,e9,h8,hlt,w1];refine Keep.mk' ⟨acc++[a],L++[Sk],by simp[hal],by simp[hll],by simp[go_sem,e1],by simp[go_sem,e3],by simp[go_sem,e5],by simp[go_sem,e6],by simp[go_sem,e7],by simp[go_sem],?_,?_,?_,by simpa[go_sem] using ho',fun i x hi hik hkd=>?_,?_⟩
   .simp only[qL];exact(hm' 0 (by omega)).trans (p0 _)
   .simp only[qL];exact(hm' 1 (by omega)).trans (p1 _)
   .simp only[qL];exact(hm' 2 (by omega)).trans (p2 _)
   .by_cases hik2:i=k
    .subst hik2
     rw[qv hlt]at hi;cases hi;obtain⟨q,rfl,_⟩:=hXok _ a (qu hlt) hx hkd;refine⟨q,?_,?_⟩
     .rw [qV (by omega),hal];simp
     .rw [qV (by omega),hll];simp[hk1 hkd q hx]
    .obtain ⟨q,q1,q2⟩:=hrel i x hi (by omega) hkd
     exact⟨q,by rw[qp (by omega)];exact q1,by rw[qp (by omega)];exact q2⟩
   .rw [hE]
    cases seqL X (n.kids.drop (k+1)) with
    |error e=>rfl
    |ok l=>simp
 .have hkl':k=n.kids.length:=by omega
  subst hkl';rw[zL]at hE;have hE:seqL X n.kids = .ok acc:=by rw[hE];simp only[seqL,zx]
  obtain⟨S',b,q1,q2,q3⟩:=hfo acc hE;have hL:((n.op=5\/n.op=11\/n.op=12\/n.op=13)\/(n.op=6\/n.op=14\/n.op=7\/n.op=8\/n.op=32\/n.op=33\/n.op=9\/n.op=10))->L=acc.map setO:=fun h=>by
   have hkd:∀ x,x∈n.kids->kd x.op=101:=fun x hx=>ZT hw h x hx
   refine jj fun i=>?_
   by_cases hi:i<n.kids.length
   .obtain ⟨q,e1,e2⟩:=hrel i n.kids[i] (by simp[hi]) hi (hkd _ (qu hi))
    rw[e2,zk,e1];rfl
   .rw [zQ (by omega),zQ (by simp;omega)]
  have hp:=q1 L hL;unfold prC at hp;have hml:2<st.mu.length:=(qk.1 m2).1;have hpush:∀(l:List Cell) (i:Nat),i<st.mu.length->(st.mu++l)[i]?=st.mu[i]?:=fun l i hi=>qp hi
  obtain⟨rr,hrr⟩:=ZS m0 m1 m2;simp[go_sem,e1,e3,e5,e6,e7,e9,h8,qo,m0];refine qb.lend (args':=[eTS c.ts,eNd n,lRS L]) hp ⟨.hf _ (zl _),.hf _ (qI n),rdRS ho,trivial⟩ (ZR S' b) ?_;have hrl:st.mu.length=rr.length+3:=by rw[hrr];rfl
  clear m0 m1 m2 hpush ho;simp[go_sem,e1,e3,e5,e6,e7,e9,h8,qo,hrr,qh,QE.tk,pc];rw[if_pos (qC _)];generalize hP:putCells _ 0 (cRS S')=P;have hP2:P=cRS S':=by rw[<-hP];exact pc (aI 0) _ (fun _=>false) _
  subst hP2;clear hP;cases b with
  |true =>
   obtain⟨rfl,rfl⟩:=q2 rfl;simp[go_sem,e1,e3,e5,e6,e7,e9,h8,hrr,qh,QE.tk,pc];rw[if_pos (qC _)];simp[go_sem,e1,e3,e5,e6,e7,e9,h8,hrr,qh,QE.tk,pc];exact .hf _ (zO S (0,0))
  |false =>
   obtain⟨rfl,rfl⟩:=q3 rfl;simp[go_sem,e1,e3,e5,e6,e7,e9,h8,hrr,qh,QE.tk,pc];refine qe.seg [0,1,2,3,4,5] [(0,0,[]),(1,0,[]),(2,0,[]),(3,0,[]),(4,1,[2]),(5,1,[])] (by kernel_rfl) (by kernel_rfl) (by simp[go_sem]) ?_;simp[go_sem,e1,e3,e5,e6,e7,e9,h8,hrr,qh,QE.tk,pc];exact .hf _ (zO zR (42,n.pos))
theorem qi3(c:Ck)(hc:okCk c)(s:Scp)(n:Nd)(B:Bool)(X:Nd->Res)(S:RS)(D:Dg)(h1:¬n.op=1)(h47:¬n.op=47)(hb:¬(n.op=15\/n.op=45\/n.op=46))(hw:WfN n)(hkl:n.kids.length<=401)(hT:True)(h12:¬n.op=12)(h13:n.op=13)(hBt:B=true)
  (hX1:∀ k,k∈n.kids->∃ S,qi qd 196 [eVw c B,lVr (envS s),eNd k] (.tup [eRS S,eDg (dgOf (X k))])/\(kd k.op=101->∀ q,X k = .ok (some q)->S=qm q))
  (hXok:∀ k a,k∈n.kids->X k = .ok a->kd k.op=101->∃ q,a=some q/\okKd c.ts.sorts.length q)
  (hXerr:∀ k e,X k = .error e->40<=e.1)
  (hfe:∀ e,seqL X n.kids = .error e->S=zR/\D=e)
  (hfo:∀ l,seqL X n.kids = .ok l->∃ S' b,(∀ L:List RS,((n.op=5\/n.op=11\/n.op=12\/n.op=13)\/(n.op=6\/n.op=14\/n.op=7\/n.op=8\/n.op=32\/n.op=33\/n.op=9\/n.op=10)->L=l.map setO)->prC c.ts n L S' b)/\(b=true->S=S'/\D=(0,0))/\(b=false->S=zR/\D=(42,n.pos))) :
  qi qd 196 [eVw c false,lVr (envS s),eNd n] (.tup [eRS S,eDg D]):=by
 simp only[not_or]at hb;obtain⟨b1,b2,b3⟩:=hb;refine qSQ call196 func196 rfl { mt:=[3] } ?_;have ct:=vA n.op;have cp:=ua c hc n.name;simp[go_sem,h1,h47,b1,b2,b3];simp[go_sem,h12,h13];refine ql.upK n.kids.length (fun k st=>∃(acc:List (Option Kd)) (L:List RS),acc.length=k/\L.length=k/\st.tm 1=lVr (envS s)/\st.tm 3 = .ptr 0 0/\st.tm 5 = .ip (cNd n)/\st.tm 6 = .ptr 1 0/\st.tm 7 = .ptr 2 0/\st.tm 9=aI k/\st.mu[0]?=some (.arr (cVw c B))/\st.mu[1]?=some (.arr (aI 0 :: hB fun _=>false))/\st.mu[2]?=some (.arr [aI 0,aI 0])/\OwnF 3 st.mu 65 (st.tm 8) (L.map cRS)/\(∀(i:Nat) x,n.kids[i]?=some x->i<k->kd x.op=101->∃ q,acc[i]?=some (some q)/\L[i]?=some (qm q))/\seqL X n.kids=(match seqL X (n.kids.drop k) with | .error e => .error e | .ok l => .ok (acc++l))) ?_ ?_
 .refine ⟨[],[],rfl,rfl,by simp[go_sem],by simp[go_sem],by simp[go_sem],by simp[go_sem],by simp[go_sem],by simp[go_sem],by rw[hBt];simp[go_sem],by simp[go_sem];rfl,by simp[go_sem],by simp[go_sem];exact OwnF.nil (by simp),fun i x _ h=>absurd h (by omega),?_⟩
  simp only[List.drop_zero,yP];cases seqL X n.kids<;>rfl
 rintro k st hk ⟨acc,L,hal,hll,e1,e3,e5,e6,e7,e9,m0,m1,m2,ho,hrel,hE⟩;generalize h8:st.tm 8=av at *
 by_cases hlt:k<n.kids.length
 .have w1:qj.wrap ((k:Int)+1)=(k:Int)+1:=qg (by omega) (by omega)
  obtain⟨Sk,ck,hk1⟩:=hX1 n.kids[k] (qu hlt);rw[zj hlt]at hE;simp only[seqL]at hE;simp[go_sem,e1,e3,e5,e6,e7,e9,h8,hlt,qo];refine qe.seg [0,1,2,3,4,5,6,7,8,9,10,11,12,13,14] [(0,0,[]),(1,0,[]),(2,0,[]),(3,0,[]),(4,0,[]),(5,0,[]),(6,0,[]),(7,1,[]),(8,0,[]),(9,0,[]),(10,0,[]),(11,2,[0,3,6]),(12,2,[0,3,6]),(13,1,[]),(14,1,[])] (by kernel_rfl) (by kernel_rfl) (by simp[go_sem]) ?_;have hml:2<st.mu.length:=(qk.1 m2).1;have hpush:∀(l:List Cell) (i:Nat),i<st.mu.length->(st.mu++l)[i]?=st.mu[i]?:=fun l i hi=>qp hi
  have p0:=fun l=>(hpush l 0 (by omega)).trans m0
  have p1:=fun l=>(hpush l 1 (by omega)).trans m1
  have p2:=fun l=>(hpush l 2 (by omega)).trans m2
  have g0:=(qk.1 m0).2;have g1:=(qk.1 m1).2;have g2:=(qk.1 m2).2;have hl0:0<st.mu.length:=by omega
  have hl1:1<st.mu.length:=by omega
  simp[go_sem,e1,e3,e5,e6,e7,e9,h8,hlt,qo,m0];refine qb.pure ck (wkE c _ _ _) ?_;cases hx:X n.kids[k] with
  |error e =>
   have he:=hXerr _ _ hx;have he0:¬e.1=0:=by omega
   rw[hx]at hE;have hE:seqL X n.kids = .error e:=hE;obtain⟨hS0,hD0⟩:=hfe e hE;rw[hS0,hD0];simp[go_sem,e1,e3,e5,e6,e7,e9,h8,hlt,qo,m0,g0,p0,hl0,qh,QE.tk,pc,he0,dgOf];rw[if_pos (qC _)];generalize hP:putCells _ 0 (cRS Sk)=P;have hP2:P=cRS Sk:=by rw[<-hP];exact pc (aI 0) _ (fun _=>false) _
   subst hP2;clear hP;simp[go_sem,e1,e3,e5,e6,e7,e9,h8,hlt,qo,m0,g0,p0,hl0,qh,QE.tk,pc,he0,dgOf];refine qe.seg [0,1,2,3] [(0,0,[]),(1,0,[]),(2,1,[1]),(3,1,[])] (by kernel_rfl) (by kernel_rfl) (by simp[go_sem]) ?_;simp[go_sem,e1,e3,e5,e6,e7,e9,h8,hlt,qo,m0,g0,p0,hl0,qh,QE.tk,pc,he0,dgOf,p1,p2,g1,g2,hl1,hml];exact .hf _ (zO zR e)
  |ok a =>
   rw[hx]at hE;simp only at hE;simp[go_sem,e1,e3,e5,e6,e7,e9,h8,hlt,qo,m0,g0,p0,hl0,qh,QE.tk,pc,dgOf];rw[if_pos (qC _)];generalize hP:putCells _ 0 (cRS Sk)=P;have hP2:P=cRS Sk:=by rw[<-hP];exact pc (aI 0) _ (fun _=>false) _
   subst hP2;clear hP;simp[go_sem,e1,e3,e5,e6,e7,e9,h8,hlt,qo,m0,g0,p0,hl0,qh,QE.tk,pc,dgOf];rw[if_pos (qC _)];simp[go_sem,e1,e3,e5,e6,e7,e9,h8,hlt];refine ZQ (lo:=3) (xs:=L) (ys:=[Sk]) ⟨by simpa using jB (jB ho.1 _) _,ho.2.1,by have:=ho.2.2;simp;omega⟩ (by simp[qG]) (by simp;omega) fun av' m' ho' hm'=>?_
   simp[go_sem,e1,e3,e5,e6,e7,e9,h8,hlt,w1];refine Keep.mk' ⟨acc++[a],L++[Sk],by simp[hal],by simp[hll],by simp[go_sem,e1],by simp[go_sem,e3],by simp[go_sem,e5],by simp[go_sem,e6],by simp[go_sem,e7],by simp[go_sem],?_,?_,?_,by simpa[go_sem] using ho',fun i x hi hik hkd=>?_,?_⟩
   .simp only[qL];exact(hm' 0 (by omega)).trans (p0 _)
   .simp only[qL];exact(hm' 1 (by omega)).trans (p1 _)
   .simp only[qL];exact(hm' 2 (by omega)).trans (p2 _)
   .by_cases hik2:i=k
    .subst hik2
     rw[qv hlt]at hi;cases hi;obtain⟨q,rfl,_⟩:=hXok _ a (qu hlt) hx hkd;refine⟨q,?_,?_⟩
     .rw [qV (by omega),hal];simp
     .rw [qV (by omega),hll];simp[hk1 hkd q hx]
    .obtain ⟨q,q1,q2⟩:=hrel i x hi (by omega) hkd
     exact⟨q,by rw[qp (by omega)];exact q1,by rw[qp (by omega)];exact q2⟩
   .rw [hE]
    cases seqL X (n.kids.drop (k+1)) with
    |error e=>rfl
    |ok l=>simp
 .have hkl':k=n.kids.length:=by omega
  subst hkl';rw[zL]at hE;have hE:seqL X n.kids = .ok acc:=by rw[hE];simp only[seqL,zx]
  obtain⟨S',b,q1,q2,q3⟩:=hfo acc hE;have hL:((n.op=5\/n.op=11\/n.op=12\/n.op=13)\/(n.op=6\/n.op=14\/n.op=7\/n.op=8\/n.op=32\/n.op=33\/n.op=9\/n.op=10))->L=acc.map setO:=fun h=>by
   have hkd:∀ x,x∈n.kids->kd x.op=101:=fun x hx=>ZT hw h x hx
   refine jj fun i=>?_
   by_cases hi:i<n.kids.length
   .obtain ⟨q,e1,e2⟩:=hrel i n.kids[i] (by simp[hi]) hi (hkd _ (qu hi))
    rw[e2,zk,e1];rfl
   .rw [zQ (by omega),zQ (by simp;omega)]
  have hp:=q1 L hL;unfold prC at hp;have hml:2<st.mu.length:=(qk.1 m2).1;have hpush:∀(l:List Cell) (i:Nat),i<st.mu.length->(st.mu++l)[i]?=st.mu[i]?:=fun l i hi=>qp hi
  obtain⟨rr,hrr⟩:=ZS m0 m1 m2;simp[go_sem,e1,e3,e5,e6,e7,e9,h8,qo,m0];refine qb.lend (args':=[eTS c.ts,eNd n,lRS L]) hp ⟨.hf _ (zl _),.hf _ (qI n),rdRS ho,trivial⟩ (ZR S' b) ?_;have hrl:st.mu.length=rr.length+3:=by rw[hrr];rfl
  clear m0 m1 m2 hpush ho;simp[go_sem,e1,e3,e5,e6,e7,e9,h8,qo,hrr,qh,QE.tk,pc];rw[if_pos (qC _)];generalize hP:putCells _ 0 (cRS S')=P;have hP2:P=cRS S':=by rw[<-hP];exact pc (aI 0) _ (fun _=>false) _
  subst hP2;clear hP;cases b with
  |true =>
   obtain⟨rfl,rfl⟩:=q2 rfl;simp[go_sem,e1,e3,e5,e6,e7,e9,h8,hrr,qh,QE.tk,pc];rw[if_pos (qC _)];simp[go_sem,e1,e3,e5,e6,e7,e9,h8,hrr,qh,QE.tk,pc];exact .hf _ (zO S (0,0))
  |false =>
   obtain⟨rfl,rfl⟩:=q3 rfl;simp[go_sem,e1,e3,e5,e6,e7,e9,h8,hrr,qh,QE.tk,pc];refine qe.seg [0,1,2,3,4,5] [(0,0,[]),(1,0,[]),(2,0,[]),(3,0,[]),(4,1,[2]),(5,1,[])] (by kernel_rfl) (by kernel_rfl) (by simp[go_sem]) ?_;simp[go_sem,e1,e3,e5,e6,e7,e9,h8,hrr,qh,QE.tk,pc];exact .hf _ (zO zR (42,n.pos))
theorem qi4(c:Ck)(hc:okCk c)(s:Scp)(n:Nd)(B:Bool)(X:Nd->Res)(S:RS)(D:Dg)(h1:¬n.op=1)(h47:¬n.op=47)(hb:¬(n.op=15\/n.op=45\/n.op=46))(hw:WfN n)(hkl:n.kids.length<=401)(hT:True)(h12:¬n.op=12)(h13:¬n.op=13)(hBt:B=false)
  (hX1:∀ k,k∈n.kids->∃ S,qi qd 196 [eVw c B,lVr (envS s),eNd k] (.tup [eRS S,eDg (dgOf (X k))])/\(kd k.op=101->∀ q,X k = .ok (some q)->S=qm q))
  (hXok:∀ k a,k∈n.kids->X k = .ok a->kd k.op=101->∃ q,a=some q/\okKd c.ts.sorts.length q)
  (hXerr:∀ k e,X k = .error e->40<=e.1)
  (hfe:∀ e,seqL X n.kids = .error e->S=zR/\D=e)
  (hfo:∀ l,seqL X n.kids = .ok l->∃ S' b,(∀ L:List RS,((n.op=5\/n.op=11\/n.op=12\/n.op=13)\/(n.op=6\/n.op=14\/n.op=7\/n.op=8\/n.op=32\/n.op=33\/n.op=9\/n.op=10)->L=l.map setO)->prC c.ts n L S' b)/\(b=true->S=S'/\D=(0,0))/\(b=false->S=zR/\D=(42,n.pos))) :
  qi qd 196 [eVw c false,lVr (envS s),eNd n] (.tup [eRS S,eDg D]):=by
 simp only[not_or]at hb;obtain⟨b1,b2,b3⟩:=hb;refine qSQ call196 func196 rfl { mt:=[3] } ?_;have ct:=vA n.op;have cp:=ua c hc n.name;simp[go_sem,h1,h47,b1,b2,b3];simp[go_sem,h12,h13];refine ql.upK n.kids.length (fun k st=>∃(acc:List (Option Kd)) (L:List RS),acc.length=k/\L.length=k/\st.tm 1=lVr (envS s)/\st.tm 3 = .ptr 0 0/\st.tm 5 = .ip (cNd n)/\st.tm 6 = .ptr 1 0/\st.tm 7 = .ptr 2 0/\st.tm 9=aI k/\st.mu[0]?=some (.arr (cVw c B))/\st.mu[1]?=some (.arr (aI 0 :: hB fun _=>false))/\st.mu[2]?=some (.arr [aI 0,aI 0])/\OwnF 3 st.mu 65 (st.tm 8) (L.map cRS)/\(∀(i:Nat) x,n.kids[i]?=some x->i<k->kd x.op=101->∃ q,acc[i]?=some (some q)/\L[i]?=some (qm q))/\seqL X n.kids=(match seqL X (n.kids.drop k) with | .error e => .error e | .ok l => .ok (acc++l))) ?_ ?_
 .refine ⟨[],[],rfl,rfl,by simp[go_sem],by simp[go_sem],by simp[go_sem],by simp[go_sem],by simp[go_sem],by simp[go_sem],by rw[hBt];simp[go_sem],by simp[go_sem];rfl,by simp[go_sem],by simp[go_sem];exact OwnF.nil (by simp),fun i x _ h=>absurd h (by omega),?_⟩
  simp only[List.drop_zero,yP];cases seqL X n.kids<;>rfl
 rintro k st hk ⟨acc,L,hal,hll,e1,e3,e5,e6,e7,e9,m0,m1,m2,ho,hrel,hE⟩;generalize h8:st.tm 8=av at *
 by_cases hlt:k<n.kids.length
 .have w1:qj.wrap ((k:Int)+1)=(k:Int)+1:=qg (by omega) (by omega)
  obtain⟨Sk,ck,hk1⟩:=hX1 n.kids[k] (qu hlt);rw[zj hlt]at hE;simp only[seqL]at hE;simp[go_sem,e1,e3,e5,e6,e7,e9,h8,hlt,qo];refine qe.seg [0,1,2,3,4,5,6,7,8,9,10,11,12,13,14] [(0,0,[]),(1,0,[]),(2,0,[]),(3,0,[]),(4,0,[]),(5,0,[]),(6,0,[]),(7,1,[]),(8,0,[]),(9,0,[]),(10,0,[]),(11,2,[0,3,6]),(12,2,[0,3,6]),(13,1,[]),(14,1,[])] (by kernel_rfl) (by kernel_rfl) (by simp[go_sem]) ?_;have hml:2<st.mu.length:=(qk.1 m2).1;have hpush:∀(l:List Cell) (i:Nat),i<st.mu.length->(st.mu++l)[i]?=st.mu[i]?:=fun l i hi=>qp hi
  have p0:=fun l=>(hpush l 0 (by omega)).trans m0
  have p1:=fun l=>(hpush l 1 (by omega)).trans m1
  have p2:=fun l=>(hpush l 2 (by omega)).trans m2
  have g0:=(qk.1 m0).2;have g1:=(qk.1 m1).2;have g2:=(qk.1 m2).2;have hl0:0<st.mu.length:=by omega
  have hl1:1<st.mu.length:=by omega
  simp[go_sem,e1,e3,e5,e6,e7,e9,h8,hlt,qo,m0];refine qb.pure ck (wkE c _ _ _) ?_;cases hx:X n.kids[k] with
  |error e =>
   have he:=hXerr _ _ hx;have he0:¬e.1=0:=by omega
   rw[hx]at hE;have hE:seqL X n.kids = .error e:=hE;obtain⟨hS0,hD0⟩:=hfe e hE;rw[hS0,hD0];simp[go_sem,e1,e3,e5,e6,e7,e9,h8,hlt,qo,m0,g0,p0,hl0,qh,QE.tk,pc,he0,dgOf];rw[if_pos (qC _)];generalize hP:putCells _ 0 (cRS Sk)=P;have hP2:P=cRS Sk:=by rw[<-hP];exact pc (aI 0) _ (fun _=>false) _
   subst hP2;clear hP;simp[go_sem,e1,e3,e5,e6,e7,e9,h8,hlt,qo,m0,g0,p0,hl0,qh,QE.tk,pc,he0,dgOf];refine qe.seg [0,1,2,3] [(0,0,[]),(1,0,[]),(2,1,[1]),(3,1,[])] (by kernel_rfl) (by kernel_rfl) (by simp[go_sem]) ?_;simp[go_sem,e1,e3,e5,e6,e7,e9,h8,hlt,qo,m0,g0,p0,hl0,qh,QE.tk,pc,he0,dgOf,p1,p2,g1,g2,hl1,hml];exact .hf _ (zO zR e)
  |ok a =>
   rw[hx]at hE;simp only at hE;simp[go_sem,e1,e3,e5,e6,e7,e9,h8,hlt,qo,m0,g0,p0,hl0,qh,QE.tk,pc,dgOf];rw[if_pos (qC _)];generalize hP:putCells _ 0 (cRS Sk)=P;have hP2:P=cRS Sk:=by rw[<-hP];exact pc (aI 0) _ (fun _=>false) _
   subst hP2;clear hP;simp[go_sem,e1,e3,e5,e6,e7,e9,h8,hlt,qo,m0,g0,p0,hl0,qh,QE.tk,pc,dgOf];rw[if_pos (qC _)];simp[go_sem,e1,e3,e5,e6,e7,e9,h8,hlt];refine ZQ (lo:=3) (xs:=L) (ys:=[Sk]) ⟨by simpa using jB (jB ho.1 _) _,ho.2.1,by have:=ho.2.2;simp;omega⟩ (by simp[qG]) (by simp;omega) fun av' m' ho' hm'=>?_
   simp[go_sem,e1,e3,e5,e6,e7,e9,h8,hlt,w1];refine Keep.mk' ⟨acc++[a],L++[Sk],by simp[hal],by simp[hll],by simp[go_sem,e1],by simp[go_sem,e3],by simp[go_sem,e5],by simp[go_sem,e6],by simp[go_sem,e7],by simp[go_sem],?_,?_,?_,by simpa[go_sem] using ho',fun i x hi hik hkd=>?_,?_⟩
   .simp only[qL];exact(hm' 0 (by omega)).trans (p0 _)
   .simp only[qL];exact(hm' 1 (by omega)).trans (p1 _)
   .simp only[qL];exact(hm' 2 (by omega)).trans (p2 _)
   .by_cases hik2:i=k
    .subst hik2
     rw[qv hlt]at hi;cases hi;obtain⟨q,rfl,_⟩:=hXok _ a (qu hlt) hx hkd;refine⟨q,?_,?_⟩
     .rw [qV (by omega),hal];simp
     .rw [qV (by omega),hll];simp[hk1 hkd q hx]
    .obtain ⟨q,q1,q2⟩:=hrel i x hi (by omega) hkd
     exact⟨q,by rw[qp (by omega)];exact q1,by rw[qp (by omega)];exact q2⟩
   .rw [hE]
    cases seqL X (n.kids.drop (k+1)) with
    |error e=>rfl
    |ok l=>simp
 .have hkl':k=n.kids.length:=by omega
  subst hkl';rw[zL]at hE;have hE:seqL X n.kids = .ok acc:=by rw[hE];simp only[seqL,zx]
  obtain⟨S',b,q1,q2,q3⟩:=hfo acc hE;have hL:((n.op=5\/n.op=11\/n.op=12\/n.op=13)\/(n.op=6\/n.op=14\/n.op=7\/n.op=8\/n.op=32\/n.op=33\/n.op=9\/n.op=10))->L=acc.map setO:=fun h=>by
   have hkd:∀ x,x∈n.kids->kd x.op=101:=fun x hx=>ZT hw h x hx
   refine jj fun i=>?_
   by_cases hi:i<n.kids.length
   .obtain ⟨q,e1,e2⟩:=hrel i n.kids[i] (by simp[hi]) hi (hkd _ (qu hi))
    rw[e2,zk,e1];rfl
   .rw [zQ (by omega),zQ (by simp;omega)]
  have hp:=q1 L hL;unfold prC at hp;have hml:2<st.mu.length:=(qk.1 m2).1;have hpush:∀(l:List Cell) (i:Nat),i<st.mu.length->(st.mu++l)[i]?=st.mu[i]?:=fun l i hi=>qp hi
  obtain⟨rr,hrr⟩:=ZS m0 m1 m2;simp[go_sem,e1,e3,e5,e6,e7,e9,h8,qo,m0];refine qb.lend (args':=[eTS c.ts,eNd n,lRS L]) hp ⟨.hf _ (zl _),.hf _ (qI n),rdRS ho,trivial⟩ (ZR S' b) ?_;have hrl:st.mu.length=rr.length+3:=by rw[hrr];rfl
  clear m0 m1 m2 hpush ho;simp[go_sem,e1,e3,e5,e6,e7,e9,h8,qo,hrr,qh,QE.tk,pc];rw[if_pos (qC _)];generalize hP:putCells _ 0 (cRS S')=P;have hP2:P=cRS S':=by rw[<-hP];exact pc (aI 0) _ (fun _=>false) _
  subst hP2;clear hP;cases b with
  |true =>
   obtain⟨rfl,rfl⟩:=q2 rfl;simp[go_sem,e1,e3,e5,e6,e7,e9,h8,hrr,qh,QE.tk,pc];rw[if_pos (qC _)];simp[go_sem,e1,e3,e5,e6,e7,e9,h8,hrr,qh,QE.tk,pc];exact .hf _ (zO S (0,0))
  |false =>
   obtain⟨rfl,rfl⟩:=q3 rfl;simp[go_sem,e1,e3,e5,e6,e7,e9,h8,hrr,qh,QE.tk,pc];refine qe.seg [0,1,2,3,4,5] [(0,0,[]),(1,0,[]),(2,0,[]),(3,0,[]),(4,1,[2]),(5,1,[])] (by kernel_rfl) (by kernel_rfl) (by simp[go_sem]) ?_;simp[go_sem,e1,e3,e5,e6,e7,e9,h8,hrr,qh,QE.tk,pc];exact .hf _ (zO zR (42,n.pos))
theorem qi5(c:Ck)(hc:okCk c)(s:Scp)(hs:ScOk c.ts.sorts.length s)(inn:Bool)(n:Nd)(hw:WfN n)(h1:¬n.op=1)(h47:¬n.op=47)(hb:¬(n.op=15\/n.op=45\/n.op=46))(ht:(inn&&yw c n.op n.name)=false)(ih:∀ k,k∈n.kids->∀ inn,ExR c s inn k):ExR c s inn n:=by
 have hx:exam c s inn n=match zo c s (inn||decide (n.op=12)||decide (n.op=13)) n.kids with | .error e => .error e | .ok l=>yf c.ts.sorts.length n.op n.n n.pos l:=by
  rw[vD,ht,if_neg (by simp),if_neg h1,if_neg h47,if_neg hb];generalize zo c s _ n.kids=Z;cases Z<;>rfl
 have hB1:n.op=12\/n.op=13->(inn||decide (n.op=12)||decide (n.op=13))=true:=fun h=>by rcases h with h|h<;>simp[h]
 have hB2:¬n.op=12->¬n.op=13->(inn||decide (n.op=12)||decide (n.op=13))=inn:=fun h h'=>by simp[h,h']
 generalize (inn||decide (n.op=12)||decide (n.op=13))=B at *
 obtain⟨S,D,hSD,hq,hfe,hfo⟩:∃ S D,dgOf (exam c s inn n)=D/\(kd n.op=101->∀ q,exam c s inn n = .ok (some q)->S=qm q)/\(∀ e,zo c s B n.kids = .error e->S=zR/\D=e) /\
   (∀ l,zo c s B n.kids = .ok l->∃ S' b,(∀ L:List RS,((n.op=5\/n.op=11\/n.op=12\/n.op=13)\/(n.op=6\/n.op=14\/n.op=7\/n.op=8\/n.op=32\/n.op=33\/n.op=9\/n.op=10)->L=l.map setO)->prC c.ts n L S' b)/\(b=true->S=S'/\D=(0,0))/\(b=false->S=zR/\D=(42,n.pos))):=by
  rw[hx];cases hE:zo c s B n.kids with
  |error e=>exact⟨zR,e,rfl,(fun _ q h=>by cases h),(fun e' h=>by cases h;exact⟨rfl,rfl⟩),(fun l h=>by cases h)⟩
  |ok l =>
   obtain⟨hl1,hl2⟩:=Vh hE;have hap:=(Wh hc.ts.ns hw hl1 (fun i k' a hi ha hkd=>u6 hc (szN k') k' s B a (qr _) (hw.kid (List.mem_of_getElem? hi)) hs (hl2 i k' a hi ha) hkd)).2;obtain⟨S',b,p1,p2⟩:=qiS c.ts hc.ts n l h1 (fun h=>hb (.inl h)) (fun h=>by
    rcases h with h|h|h|h
    .exact hap.1 h
    .exact hap.2.1 (.inl h)
    .exact hap.2.1 (.inr (.inl h))
    .exact hap.2.1 (.inr (.inr h))) hap.2.2
   simp only;cases hA:yf c.ts.sorts.length n.op n.n n.pos l with
   |error e =>
    rw[hA]at p2;have p2:b=false:=p2;refine⟨zR,e,rfl,(fun _ q h=>by cases h),(fun e' h=>by cases h),(fun l' h=>by cases h;exact⟨S',b,p1,(fun h=>by rw[p2]at h;cases h),(fun _=>⟨rfl,qiU hA⟩)⟩)⟩
   |ok ko =>
    rw[hA]at p2;obtain⟨p2,p3⟩:=p2;refine⟨S',(0,0),rfl,(fun hk q h=>?_),(fun e' h=>by cases h),(fun l' h=>by cases h;exact⟨S',b,p1,(fun _=>⟨rfl,rfl⟩),(fun h=>by rw[p2]at h;cases h)⟩)⟩;obtain⟨q',e1,e2⟩:=p3 hk;cases h;cases e1;exact e2
 refine⟨S,?_,hq⟩;rw[hSD];clear hSD hx hq;obtain⟨X,hX⟩:∃ X:Nd->Res,X=exam c s B:=⟨_,rfl⟩;have hX1:∀ k,k∈n.kids->∃ S,qi qd 196 [eVw c B,lVr (envS s),eNd k] (.tup [eRS S,eDg (dgOf (X k))])/\(kd k.op=101->∀ q,X k = .ok (some q)->S=qm q):=fun k hk=>by rw[hX];exact ih k hk B
 have hXok:∀ k a,k∈n.kids->X k = .ok a->kd k.op=101->∃ q,a=some q/\okKd c.ts.sorts.length q:=fun k a hk h hkd=>by rw[hX]at h;exact u6 hc (szN k) k s B a (qr _) (hw.kid hk) hs h hkd
 have hXerr:∀ k e,X k = .error e->40<=e.1:=fun k e h=>by rw[hX]at h;exact Qz c (szN k) k s B e (qr _) h
 rw[nF,<-hX]at hfe hfo;clear hX ih;have hkl:=hw.len;cases inn with
 |true =>
  have hT:zX n.op=false:=by
   rw[Bool.true_and,VB,Bool.or_eq_false_iff]at ht;exact ht.1
  by_cases h12:n.op=12
  .exact qiZ c hc s n B X S D h1 h47 hb hw hkl hT h12 (by omega) (hB1 (.inl h12)) hX1 hXok hXerr hfe hfo
  by_cases h13:n.op=13
  .exact qi0 c hc s n B X S D h1 h47 hb hw hkl hT h12 h13 (hB1 (.inr h13)) hX1 hXok hXerr hfe hfo
  exact qi1 c hc s n B X S D h1 h47 hb hw hkl hT h12 h13 (hB2 h12 h13) hX1 hXok hXerr hfe hfo
 |false =>
  by_cases h12:n.op=12
  .exact qi2 c hc s n B X S D h1 h47 hb hw hkl trivial h12 (by omega) (hB1 (.inl h12)) hX1 hXok hXerr hfe hfo
  by_cases h13:n.op=13
  .exact qi3 c hc s n B X S D h1 h47 hb hw hkl trivial h12 h13 (hB1 (.inr h13)) hX1 hXok hXerr hfe hfo
  exact qi4 c hc s n B X S D h1 h47 hb hw hkl trivial h12 h13 (hB2 h12 h13) hX1 hXok hXerr hfe hfo
theorem nG(c:Ck)(hc:okCk c):∀(m:Nat) (n:Nd),depN n<=m->WfN n->∀(s:Scp),ScOk c.ts.sorts.length s->s.length+m<=80000->∀ inn,ExR c s inn n
 | 0,n,hm,_,_,_,_,_=>by have:=qiK n;omega
 |m+1,n,hm,hw,s,hs,hsl,inn=>by
  have ih:∀ k,k∈n.kids->∀ s',ScOk c.ts.sorts.length s'->s'.length<=s.length+1->∀ inn,ExR c s' inn k:=fun k hk s' hs' hl inn=>nG c hc m k (by have:=qiJ hk;rw[ZL]at hm;omega) (hw.kid hk) s' hs' (by omega) inn
  cases ht:inn&&yw c n.op n.name with
  |true =>
   rw[qx]at ht;rw[ht.1];exact qiV c hc s n ht.2
  |false =>
   by_cases h1:n.op=1
   .exact qiW c hc s (by omega) inn n h1
   by_cases h47:n.op=47
   .exact qiX c hc s hs inn n hw h47 ht fun k hk=>ih k hk s hs (by omega) true
   by_cases hb:n.op=15\/n.op=45\/n.op=46
   .exact qiY c hc s hs (by omega) inn n hw hb ht ih
   .exact qi5 c hc s hs inn n hw h1 h47 hb ht fun k hk inn=>ih k hk s hs (by omega) inn
end QS
namespace QT
open YF Y9 Y10 Y1 Y2 Y14 Y15 Y16 YZ P1 P2 PA Q5 QD QE QI QJ QL QM QO QS
def ckR(ts:TS)(i:Nat):Ck:=⟨ts,i,tmsL ts ts.preds.length⟩
theorem nH{ts:TS}(h:okTS ts){i:Nat}(hi:i<=ts.preds.length):okCk (ckR ts i):=⟨h,hi,by show i<=(tmsL ts ts.preds.length).length;rw[Qr ts _ (qr _)];exact hi⟩
theorem nI{c c':Ck}(hts:c'.ts=c.ts)(hcl:∀ nm,zD c' nm=zD c nm)(htm:∀ op nm,yw c' op nm=yw c op nm):∀(m:Nat) (n:Nd) (s:Scp) (inn:Bool),szN n<=m->exam c s inn n=exam c' s inn n
 | 0,n,_,_,hm=>by obtain⟨op,nm,i,ks,p⟩:=n;simp[szN]at hm
 |m+1,n,s,inn,hm=>by
  have hk:∀ k,k∈n.kids->∀(s:Scp) (inn:Bool),exam c s inn k=exam c' s inn k:=fun k hk s inn=>nI hts hcl htm m k s inn (by have:=yi hk;omega)
  refine qgR rfl rfl rfl rfl (htm _ _) (fun _=>?_) (by rw[hts]) (hcl _) (by rw[hts]) rfl (fun _ ps=>qgS fun k hkk=>hk k hkk s true) (fun _ inn=>?_) (fun _ _ _ inn=>p7 fun k hkk=>hk k hkk s inn)
  .rw [pZ,pZ,hts]
  .cases hks:n.kids with
   |nil=>rfl
   |cons k ks =>
    have hmem:∀ x,x∈k :: ks->x∈n.kids:=fun x hx=>by rw[hks];exact hx
    simp only[yG];rw[hk k (hmem k (zZ ..)) s inn];have hr:∀ a,zo c ((n.name,a) :: s) inn ks=zo c' ((n.name,a) :: s) inn ks:=fun a=>p7 fun x hx=>hk x (hmem x (zK _ hx)) _ _
    simp only[hr]
theorem qi6{ts:TS}(h:okTS ts){i:Nat}(hi:i<=ts.preds.length)(n:Nd)(s:Scp)(inn:Bool):exam (ckR ts i) s inn n=exam (mkCk ts i) s inn n:=by
 refine(nI (c:=mkCk ts i) (c':=ckR ts i) rfl (fun nm=>rfl) (fun op nm=>?_) (szN n) n s inn (qr _)).symm;unfold yw;have e:zD (ckR ts i) nm=zD (mkCk ts i) nm:=rfl;rw[e];cases hc:zD (mkCk ts i) nm with
 |none=>rfl
 |some p =>
  obtain⟨h1,h2⟩:=Yt (ZC h hi) hc;have h1:p<i:=h1;have h2:p<ts.preds.length:=h2;simp only;have a1:=PC.Xd ts p ts.preds.length h2 (qr _) h2;have a2:=PC.Xd ts p i h1 hi h2;show (zX op||(decide (op=47)&&(tmsL ts ts.preds.length).getD p false))=(zX op||(decide (op=47)&&(tmsL ts i).getD p false));rw[a1,a2]
theorem qi7{ts:TS}(h:okTS ts){i:Nat}(hi:i<=ts.preds.length)(env:List (ByteArray×Int))(n:Nd):jx (mkCk ts i) env n=if 30<=n.op then dgOf (exam (ckR ts i) (y5 env) false n) else (43,n.pos):=by
 unfold jx;rw[qi6 h hi]
theorem nJ(ts:TS)(h:okTS ts)(wp:∀ p,p∈ts.preds->WfN p.body)(i:Nat)(hi:i<=ts.preds.length)(env:List (ByteArray×Int))(he:ZI ts.sorts.length env)(hel:env.length<=1000)(n:Nd)(hw:WfN n)(hd:depN n<=24) :
  qi qd 159 [eTS ts,aI i,lPm env,eNd n] (eDg (jx (mkCk ts i) env n)):=by
 rw[qi7 h hi];have hns:=h.ns;have hs:=pH he;have hbl:(y5 env).length=env.length:=by
  have:=congrArg List.length (nj env);rw[VA]at this;simpa[envV] using this.symm
 obtain⟨S,ce,_⟩:=nG (ckR ts i) (nH h hi) 24 n hd hw (y5 env) hs (by omega) false;have cv:=envU env hel (fun p hp=>by have:=he.r p hp;omega);rw[nj]at cv;have c1:=qiC n;have c2:=qh8 ts h wp;refine qSQ call159 func159 rfl {} ?_;simp[go_sem];refine qb.pure c1 (.cons (.hf (qI n)) .nil) ?_;by_cases h30:30<=n.op
 .rw [if_pos h30]
  generalize dgOf (exam (ckR ts i) (y5 env) false n)=D at *
  simp[go_sem,h30];refine qe.seg [0,1,3,5,7,2,4,6,8,9,10,11,12,13,14,15] [(0,0,[]),(1,0,[]),(3,0,[]),(5,0,[]),(7,0,[]),(2,1,[0,7]),(4,0,[]),(6,1,[0,7]),(8,1,[]),(9,0,[]),(10,0,[]),(11,0,[]),(12,2,[0,1,7]),(13,2,[0,1,7]),(14,1,[]),(15,1,[])] (by kernel_rfl) (by kernel_rfl) (by simp[go_sem]) ?_;simp[go_sem];refine qb.pure c2 (.cons (.hf (zl ts)) .nil) ?_;simp[go_sem];refine qb.pure cv (.cons (.hf (yH env)) .nil) ?_;simp[go_sem];refine qb.pure ce (wkE (ckR ts i) false _ n) ?_;simp[go_sem,qh,QE.tk,pc];rw[if_pos (qC _)];generalize hP:putCells _ 0 (cRS S)=P;have hP2:P=cRS S:=by rw[<-hP];exact pc (aI 0) _ (fun _=>false) _
  subst hP2;clear hP;simp[go_sem,qh,QE.tk,pc];exact .hf _ (vj D)
 .rw [if_neg h30]
  simp[go_sem,h30];exact .hf _ (vj (43,n.pos))
theorem qi8(ts:TS)(h:okTS ts)(wp:∀ p,p∈ts.preds->WfN p.body)(env:List (ByteArray×Int))(he:ZI ts.sorts.length env)(hel:env.length<=1000)(n:Nd)(hw:WfN n)(hd:depN n<=24) :
  qi qd 94 [eTS ts,lPm env,eNd n] (eDg (jO ts env n)):=by
 have c1:=nJ ts h wp ts.preds.length (qr _) env he hel n hw hd;have e:jx (mkCk ts ts.preds.length) env n=jO ts env n:=rfl;rw[e]at c1;generalize jO ts env n=D at *
 refine qSQ call94 func94 rfl {} ?_;simp[go_sem];refine qb.pure c1 (.cons (.hf (zl ts)) (.cons (.hf (HF.sc _)) (.cons (.hf (yH env)) (.cons (.hf (qI n)) .nil)))) ?_;simp[go_sem];exact .hf _ (vj D)
theorem ZU(a b:List Bool):dups (a++b)=dups a++dups b:=by simp[dups]
theorem uD(b:Bool):dups [b]=if b=true then [(41,0)] else []:=by cases b<;>rfl
theorem uB(l:List Bool):(dups l).length<=l.length:=by
 unfold dups;rw[yM];exact List.length_filter_le ..
theorem Xe{α:Type}(eqv:α->α->Bool)(l:List α)(k:Nat)(h:k<l.length):(repL eqv l).take (k+1)=(repL eqv l).take k++[(l.take k).any fun y=>eqv l[k] y]:=by
 have hl:k<(repL eqv l).length:=by rw[u9];exact h
 rw[Xq hl];congr 2;have:=pI eqv l h;rw[qv hl]at this;exact Option.some.inj this
theorem VC{α:Type}(p:α->Bool)(l:List α)(k:Nat)(h:k<l.length):(l.take (k+1)).any p=((l.take k).any p||p l[k]):=by
 rw[Xq h,List.any_append];simp only[List.any_cons,List.any_nil,Bool.or_false]
abbrev eS:ByteArray×Bool->ByteArray×Bool->Bool:=fun x y=>decide (x.1=y.1)
abbrev eF:Fld->Fld->Bool:=fun x y=>decide (x.name=y.name)&&decide (x.sorts=y.sorts)
abbrev eP:Pd->Pd->Bool:=fun x y=>decide (x.name=y.name)
abbrev eM:ByteArray×Int->ByteArray×Int->Bool:=fun x y=>decide (x.1=y.1)
abbrev eA:ByteArray×Nd->ByteArray×Nd->Bool:=fun x y=>decide (x.1=y.1)
theorem wh{mu:Mu}{lo:Nat}{s x:AV}{xs ys:List Dg}{K:AV->Mu->Prop}(ho:OwnF lo mu 2 s (xs.map cDg))(hx:qG mu x=some (ys.map cDg))(hl:xs.length+ys.length<=100000)(kk:∀ av mu',OwnF lo mu' 2 av ((xs++ys).map cDg)->(∀ i,i<lo->mu'[i]?=mu[i]?)->K av mu') :
  qF qd mu #[85,85] s x K:=by
 have hrows:∀ l:List Dg,zh 2 (l.map cDg):=fun l r hr=>by
  obtain⟨n,_,rfl⟩:=qs.1 hr;exact⟨rfl,rfl⟩
 refine qF.ownF (lo:=lo) (e:=134) (sz:=2) (bt:=16) (zv := .agg [aI 0,aI 0]) (xs:=xs.map cDg) (ys:=ys.map cDg) (by simp[go_sem]) (by simp[go_sem]) (by simp[go_sem]) rfl rfl (by omega) (by omega) ho hx (hrows xs) (hrows ys) (by simp;omega) ?_;intro av mu' h h2;exact kk av mu' (by rw[List.map_append];exact h) h2
theorem qi9(ts:TS)(h:okTS ts)(mu:Mu):qY qd 92 [eTS ts] mu fun e m=>∃ av,e = .ret av/\OwnF mu.length m 2 av ((dups (repL eS ts.sorts)++dups (repL eF ts.fields)).map cDg)/\∀ i,i<mu.length->m[i]?=mu[i]?:=by
 refine qSW call92 func92 rfl {} ?_;have hns:=h.ns;have hnf:=h.nf;simp[go_sem];refine ql.upK ts.sorts.length (fun i st=>st.tm 1 = .ip (cTS ts)/\st.tm 4=aI i/\OwnF mu.length st.mu 2 (st.tm 3) ((dups ((repL eS ts.sorts).take i)).map cDg)/\∀ i,i<mu.length->st.mu[i]?=mu[i]?) ?_ ?_
 .exact ⟨by simp[go_sem],by simp[go_sem],by simp[go_sem,dups];exact OwnF.nil (qr _),by simp[go_sem]⟩
 rintro i st hi ⟨e1,e4,ho,hm⟩;have hlen:(dups ((repL eS ts.sorts).take i)).length<=i:=q7 (uB _) (List.length_take_le ..);generalize h3:st.tm 3=av at *
 by_cases hlt:i<ts.sorts.length
 .have hnx:=Xe eS ts.sorts i hlt
  have wi:qj.wrap ((i:Int)+1)=(i:Int)+1:=qg (by omega) (by omega);simp[go_sem,e1,e4,h3,hlt];refine ql.upK i (fun k st2=>st2.tm 1 = .ip (cTS ts)/\st2.tm 4=aI i/\st2.tm 3=av/\st2.tm 6=aI k/\st2.tm 5=aB ((ts.sorts.take k).any fun y=>eS ts.sorts[i] y)/\st2.mu=st.mu) ?_ ?_
  .exact ⟨by simp[go_sem,e1],by simp[go_sem,e4],by simp[go_sem,h3],by simp[go_sem],by simp[go_sem],by simp[go_sem]⟩
  rintro k st2 hk ⟨f1,f4,f3,f6,f5,fm⟩;generalize hT:(ts.sorts.take k).any (fun y=>eS ts.sorts[i] y)=T at *
  by_cases hki:k<i
  .have hkl:k<ts.sorts.length:=by omega
   have wk:qj.wrap ((k:Int)+1)=(k:Int)+1:=qg (by omega) (by omega);have hany:=VC (fun y=>eS ts.sorts[i] y) ts.sorts k hkl;rw[hT]at hany;simp[go_sem,f1,f4,f3,f6,f5,hki];refine qe.intro (by kernel_rfl) ?_;cases T with
   |true =>
    rw[Bool.true_or]at hany;simp[go_sem,f1,f4,f3,f6,f5,hki,hkl,hlt,wk];exact Keep.mk' ⟨by simp[go_sem,f1],by simp[go_sem,f4],by simp[go_sem,f3],by simp[go_sem],by rw[hany];simp[go_sem],by simp[go_sem,fm]⟩
   |false =>
    rw[Bool.false_or]at hany;by_cases hq:ts.sorts[k].1=ts.sorts[i].1
    .have hany2:(ts.sorts.take (k+1)).any (fun y=>eS ts.sorts[i] y)=true:=by rw[hany];exact decide_eq_true hq.symm
     simp[go_sem,f1,f4,f3,f6,f5,hki,hkl,hlt,wk,hq];exact Keep.mk' ⟨by simp[go_sem,f1],by simp[go_sem,f4],by simp[go_sem,f3],by simp[go_sem],by rw[hany2];simp[go_sem],by simp[go_sem,fm]⟩
    .have hany2:(ts.sorts.take (k+1)).any (fun y=>eS ts.sorts[i] y)=false:=by rw[hany];exact decide_eq_false fun e=>hq e.symm
     simp[go_sem,f1,f4,f3,f6,f5,hki,hkl,hlt,wk,vd hq];exact Keep.mk' ⟨by simp[go_sem,f1],by simp[go_sem,f4],by simp[go_sem,f3],by simp[go_sem],by rw[hany2];simp[go_sem],by simp[go_sem,fm]⟩
  .have hke:k=i:=by omega
   subst hke;rw[hT]at hnx;cases T with
   |true =>
    simp[go_sem,f1,f4,f3,f6,f5,fm];refine wh (ys:=[(41,0)]) ho (by simp[qG]) (by simp;omega) fun av' m' ho' hm'=>?_
    simp[go_sem,f1,f4,wi];exact⟨hlt,Keep.mk' ⟨by simp[go_sem,f1],by simp[go_sem],by rw[hnx,ZU,uD,if_pos rfl];simpa[go_sem] using ho',by simp only[qL];exact fun i hi=>(hm' i hi).trans (hm i hi)⟩⟩
   |false =>
    simp[go_sem,f1,f4,f3,f6,f5,fm,wi];exact⟨hlt,Keep.mk' ⟨by simp[go_sem,f1],by simp[go_sem],by rw[hnx,ZU,uD,if_neg (by simp),zx];simpa[go_sem,f3,fm] using ho,by simp only[qL];exact hm⟩⟩
 .have hie:i=ts.sorts.length:=by omega
  subst hie;rw[zU (by rw[u9];exact qr _)]at ho;simp[go_sem,e1,e4,h3];generalize hDS:dups (repL eS ts.sorts)=DS0 at *
  have hds:DS0.length<=4:=by rw[<-hDS];exact q7 (uB _) (by rw[u9];exact hns)
  refine ql.upK ts.fields.length (fun i st=>st.tm 1 = .ip (cTS ts)/\st.tm 7=aI i/\OwnF mu.length st.mu 2 (st.tm 3) ((DS0++dups ((repL eF ts.fields).take i)).map cDg)/\∀ i,i<mu.length->st.mu[i]?=mu[i]?) ?_ ?_
  .exact ⟨by simp[go_sem,e1],by simp[go_sem],by simpa[go_sem,dups,h3] using ho,by simpa[go_sem] using hm⟩
  clear hlen ho hm e1 e4 h3 hlt hi st;rintro i st hi ⟨e1,e4,ho,hm⟩;have hlen:(dups ((repL eF ts.fields).take i)).length<=i:=q7 (uB _) (List.length_take_le ..);generalize h3:st.tm 3=av2 at *
  by_cases hlt:i<ts.fields.length
  .have hnx:=Xe eF ts.fields i hlt
   have wi:qj.wrap ((i:Int)+1)=(i:Int)+1:=qg (by omega) (by omega);simp[go_sem,e1,e4,h3,hlt];refine ql.upK i (fun k st2=>st2.tm 1 = .ip (cTS ts)/\st2.tm 7=aI i/\st2.tm 3=av2/\st2.tm 9=aI k/\st2.tm 8=aB ((ts.fields.take k).any fun y=>eF ts.fields[i] y)/\st2.mu=st.mu) ?_ ?_
   .exact ⟨by simp[go_sem,e1],by simp[go_sem,e4],by simp[go_sem,h3],by simp[go_sem],by simp[go_sem],by simp[go_sem]⟩
   rintro k st2 hk ⟨f1,f4,f3,f6,f5,fm⟩;generalize hT:(ts.fields.take k).any (fun y=>eF ts.fields[i] y)=T at *
   by_cases hki:k<i
   .have hkl:k<ts.fields.length:=by omega
    have wk:qj.wrap ((k:Int)+1)=(k:Int)+1:=qg (by omega) (by omega);have hany:=VC (fun y=>eF ts.fields[i] y) ts.fields k hkl;rw[hT]at hany;have hfl:=h.fl _ (qu hkl);have hsm:=qgK ts.fields[k].sorts ts.fields[i].sorts (by omega);simp[go_sem,f1,f4,f3,f6,f5,hki];refine qe.intro (by kernel_rfl) ?_;cases T with
    |true =>
     rw[Bool.true_or]at hany;simp[go_sem,f1,f4,f3,f6,f5,hki,hkl,hlt,wk];exact Keep.mk' ⟨by simp[go_sem,f1],by simp[go_sem,f4],by simp[go_sem,f3],by simp[go_sem],by rw[hany];simp[go_sem],by simp[go_sem,fm]⟩
    |false =>
     rw[Bool.false_or]at hany;by_cases hq:ts.fields[k].name=ts.fields[i].name
     .simp [go_sem,f1,f4,f3,f6,f5,hki,hkl,hlt,wk,hq]
      refine qb.pure hsm (.cons (.hf (zM _)) (.cons (.hf (zM _)) .nil)) ?_;by_cases hq2:ts.fields[k].sorts=ts.fields[i].sorts
      .have hany2:(ts.fields.take (k+1)).any (fun y=>eF ts.fields[i] y)=true:=by rw[hany];simp[eF,hq.symm,hq2.symm]
       simp[go_sem,f1,f4,f3,f6,f5,hki,hkl,hlt,wk,hq2];exact Keep.mk' ⟨by simp[go_sem,f1],by simp[go_sem,f4],by simp[go_sem,f3],by simp[go_sem],by rw[hany2];simp[go_sem],by simp[go_sem,fm]⟩
      .have hany2:(ts.fields.take (k+1)).any (fun y=>eF ts.fields[i] y)=false:=by rw[hany];simp[eF,hq.symm];exact fun e=>hq2 e.symm
       simp[go_sem,f1,f4,f3,f6,f5,hki,hkl,hlt,wk,hq2];exact Keep.mk' ⟨by simp[go_sem,f1],by simp[go_sem,f4],by simp[go_sem,f3],by simp[go_sem],by rw[hany2];simp[go_sem],by simp[go_sem,fm]⟩
     .have hany2:(ts.fields.take (k+1)).any (fun y=>eF ts.fields[i] y)=false:=by rw[hany];simp[eF];exact fun e=>absurd e.symm hq
      simp[go_sem,f1,f4,f3,f6,f5,hki,hkl,hlt,wk,vd hq];exact Keep.mk' ⟨by simp[go_sem,f1],by simp[go_sem,f4],by simp[go_sem,f3],by simp[go_sem],by rw[hany2];simp[go_sem],by simp[go_sem,fm]⟩
   .have hke:k=i:=by omega
    subst hke;rw[hT]at hnx;cases T with
    |true =>
     simp[go_sem,f1,f4,f3,f6,f5,fm];refine wh (ys:=[(41,0)]) ho (by simp[qG]) (by simp;omega) fun av' m' ho' hm'=>?_
     simp[go_sem,f1,f4,wi];exact⟨hlt,Keep.mk' ⟨by simp[go_sem,f1],by simp[go_sem],by rw[hnx,ZU,uD,if_pos rfl,<-zB];simpa[go_sem] using ho',by simp only[qL];exact fun i hi=>(hm' i hi).trans (hm i hi)⟩⟩
    |false =>
     simp[go_sem,f1,f4,f3,f6,f5,fm,wi];exact⟨hlt,Keep.mk' ⟨by simp[go_sem,f1],by simp[go_sem],by rw[hnx,ZU,uD,if_neg (by simp),zx];simpa[go_sem,f3,fm] using ho,by simp only[qL];exact hm⟩⟩
  .have hie:i=ts.fields.length:=by omega
   subst hie;rw[zU (by rw[u9];exact qr _)]at ho;simp[go_sem,e1,e4,h3];exact⟨by simpa using ho,hm⟩
end QT
namespace QU
open YF Y9 Y10 Y1 Y2 Y15 Y16 YZ P1 P2 PA QD QI QK QT
theorem qjA{ts:TS}{i:Nat}(hi:i<ts.preds.length):(∃ p:Nat,zD (ckR ts i) ts.preds[i].name=some p/\(ts.preds.take i).any (fun y=>eP ts.preds[i] y)=true)\/(zD (ckR ts i) ts.preds[i].name=none/\(ts.preds.take i).any (fun y=>eP ts.preds[i] y)=false):=by
 cases h:zD (ckR ts i) ts.preds[i].name with
 |some p =>
  left;refine⟨p,rfl,?_⟩;unfold zD at h;rw[List.findIdx?_eq_some_iff_getElem]at h;obtain⟨hp,a1,_⟩:=h;refine List.any_eq_true.2 ⟨_,qu hp,?_⟩;have a1:decide ((ts.preds.take i)[p].name=ts.preds[i].name)=true:=a1;have a1:(ts.preds.take i)[p].name=ts.preds[i].name:=by simpa using a1
  exact decide_eq_true a1.symm
 |none =>
  right;refine⟨rfl,?_⟩;unfold zD at h;rw[List.findIdx?_eq_none_iff]at h;rw[List.any_eq_false];intro x hx;have:=h x hx;have:¬x.name=ts.preds[i].name:=by simpa using this
  simpa using fun e:ts.preds[i].name=x.name=>this e.symm
theorem WE(d:Dg):(rp d).length<=1:=by unfold rp;split<;>simp
theorem rdDg{lo:Nat}{mu:Mu}{av:AV}{xs:List Dg}(h:OwnF lo mu 2 av (xs.map cDg)):Rd mu av (lDg xs):=by
 refine h.1.rd (zh.ok fun r hr=>?_) fun r hr c hc=>?_
 .obtain ⟨n,_,rfl⟩:=qs.1 hr
  exact⟨rfl,rfl⟩
 .obtain ⟨n,_,rfl⟩:=qs.1 hr
  rcases qB.1 hc with rfl|hc
  .exact HF.sc _
  .rw [qW]at hc;subst hc;exact HF.sc _
theorem ZV{lo sz:Nat}{mu:Mu}{av:AV}{xs:List (List AV)}(h:OwnF lo mu sz av xs)(c:Cell):OwnF lo (mu++[c]) sz av xs:=⟨jB h.1 c,h.2.1,by have:=h.2.2;simp;omega⟩
theorem qjB(ts:TS)(h:okTS ts)(wp:∀ p,p∈ts.preds->WfN p.body)(i:Nat)(hi:i<ts.preds.length)(hd:depN ts.preds[i].body<=24):qi qd 93 [eTS ts,aI i] (lDg (vH ts i)):=by
 have hpd:=h.pl _ (qu hi);have hnp:=h.np;have c1:=nJ ts h wp i (by omega) ts.preds[i].params ⟨by omega,hpd.2⟩ (by omega) ts.preds[i].body (wp _ (qu hi)) hd;have c2:=Vy (ckR ts i) (nH h (by omega)) ts.preds[i].name;have hct:=qjA hi;have hp:vH ts i=dups [(ts.preds.take i).any (fun y=>eP ts.preds[i] y)]++(dups (repL eM ts.preds[i].params)++rp (jx (mkCk ts i) ts.preds[i].params ts.preds[i].body)):=by
  unfold vH;rw[qv hi];simp only;rw[p8,qv hi]
 rw[hp];generalize hD:jx (mkCk ts i) ts.preds[i].params ts.preds[i].body=D at *
 generalize hb:(ts.preds.take i).any (fun y=>eP ts.preds[i] y)=b at *
 have hdl:(dups [b]).length<=1:=by cases b<;>simp[dups]
 refine qSQ call93 func93 rfl {} ?_;simp[go_sem];refine qe.intro (by kernel_rfl) ?_;simp[go_sem,hi,vC];refine qb.pure c2 (.cons (.hf (zl _)) (.cons (.hf (HF.sc _)) (.cons (.hf (HF.sc _)) .nil))) ?_;have wk:WKs [eTS ts,aI i,lPm ts.preds[i].params,eNd ts.preds[i].body] [eTS ts,aI i,lPm ts.preds[i].params,eNd ts.preds[i].body] := .cons (.hf (zl _)) (.cons (.hf (HF.sc _)) (.cons (.hf (yH _)) (.cons (.hf (qI _)) .nil)));have hrow:=vC;have fin:∀ st:St,True:=fun _=>trivial
 rcases hct with ⟨p,hc,hbt⟩|⟨hc,hbt⟩
 case' inl =>
  subst hbt;rw[hc];have hp0:(0:Int)<=(p:Int):=by omega
  simp[go_sem,idxO,hp0];refine wh (lo:=0) (xs:=[]) (ys:=[(41,0)]) (OwnF.nil (by simp)) (by simp[qG]) (by simp) fun av0 m0 ho0 _=>?_
  simp[go_sem,hi,vC]
 case' inr =>
  subst hbt;rw[hc];simp[go_sem,idxO,hi,vC]
 all_goals
  generalize hpp:ts.preds[i]=pd at *
 case' inl =>
  refine ql.upK pd.params.length (fun k st=>st.tm 2 = .ip (cTS ts)/\st.tm 1=aI i/\st.tm 6=lPm pd.params/\st.tm 7=aI k/\OwnF 0 st.mu 2 (st.tm 5) ((dups [true]++dups ((repL eM pd.params).take k)).map cDg)) ?_ ?_
  .exact ⟨by simp[go_sem],by simp[go_sem],by simp[go_sem],by simp[go_sem],by simpa[go_sem,dups] using ho0⟩
 case' inr =>
  refine ql.upK pd.params.length (fun k st=>st.tm 2 = .ip (cTS ts)/\st.tm 1=aI i/\st.tm 6=lPm pd.params/\st.tm 7=aI k/\OwnF 0 st.mu 2 (st.tm 5) ((dups [false]++dups ((repL eM pd.params).take k)).map cDg)) ?_ ?_
  .exact ⟨by simp[go_sem],by simp[go_sem],by simp[go_sem],by simp[go_sem],by simp[go_sem,dups];exact OwnF.nil (by simp)⟩
 all_goals
  rintro k st hk ⟨e2,e1,e6,e7,ho⟩;have hlen:(dups ((repL eM pd.params).take k)).length<=k:=q7 (Y16.uB _) (List.length_take_le ..);generalize h5:st.tm 5=av at *
  by_cases hlt:k<pd.params.length
  .have hnx:=Xe eM pd.params k hlt
   have wi:qj.wrap ((k:Int)+1)=(k:Int)+1:=qg (by omega) (by omega);simp[go_sem,e2,e1,e6,e7,h5,hlt];refine ql.upK k (fun j st2=>st2.tm 2 = .ip (cTS ts)/\st2.tm 1=aI i/\st2.tm 6=lPm pd.params/\st2.tm 7=aI k/\st2.tm 5=av/\st2.tm 9=aI j/\st2.tm 8=aB ((pd.params.take j).any fun y=>eM pd.params[k] y)/\st2.mu=st.mu) ?_ ?_
   .exact ⟨by simp[go_sem,e2],by simp[go_sem,e1],by simp[go_sem,e6],by simp[go_sem,e7],by simp[go_sem,h5],by simp[go_sem],by simp[go_sem],by simp[go_sem]⟩
   rintro j st2 hj ⟨f2,f1,f6,f7,f5,f9,f8,fm⟩;generalize hT:(pd.params.take j).any (fun y=>eM pd.params[k] y)=T at *
   by_cases hjk:j<k
   .have hjl:j<pd.params.length:=by omega
    have wj:qj.wrap ((j:Int)+1)=(j:Int)+1:=qg (by omega) (by omega);have hany:=VC (fun y=>eM pd.params[k] y) pd.params j hjl;rw[hT]at hany;simp[go_sem,f2,f1,f6,f7,f5,f9,f8,hjk];refine qe.intro (by kernel_rfl) ?_;cases T with
    |true =>
     rw[Bool.true_or]at hany;simp[go_sem,f2,f1,f6,f7,f5,f9,f8,hjk,hjl,hlt,wj];exact Keep.mk' ⟨by simp[go_sem,f2],by simp[go_sem,f1],by simp[go_sem,f6],by simp[go_sem,f7],by simp[go_sem,f5],by simp[go_sem],by rw[hany];simp[go_sem],by simp[go_sem,fm]⟩
    |false =>
     rw[Bool.false_or]at hany;by_cases hq:pd.params[j].1=pd.params[k].1
     .have hany2:(pd.params.take (j+1)).any (fun y=>eM pd.params[k] y)=true:=by rw[hany];exact decide_eq_true hq.symm
      simp[go_sem,f2,f1,f6,f7,f5,f9,f8,hjk,hjl,hlt,wj,hq];exact Keep.mk' ⟨by simp[go_sem,f2],by simp[go_sem,f1],by simp[go_sem,f6],by simp[go_sem,f7],by simp[go_sem,f5],by simp[go_sem],by rw[hany2];simp[go_sem],by simp[go_sem,fm]⟩
     .have hany2:(pd.params.take (j+1)).any (fun y=>eM pd.params[k] y)=false:=by rw[hany];exact decide_eq_false fun e=>hq e.symm
      simp[go_sem,f2,f1,f6,f7,f5,f9,f8,hjk,hjl,hlt,wj,vd hq];exact Keep.mk' ⟨by simp[go_sem,f2],by simp[go_sem,f1],by simp[go_sem,f6],by simp[go_sem,f7],by simp[go_sem,f5],by simp[go_sem],by rw[hany2];simp[go_sem],by simp[go_sem,fm]⟩
   .have hje:j=k:=by omega
    subst hje;rw[hT]at hnx;cases T with
    |true =>
     simp[go_sem,f2,f1,f6,f7,f5,f9,f8,fm];refine wh (ys:=[(41,0)]) ho (by simp[qG]) (by simp;omega) fun av' m' ho' hm'=>?_
     simp[go_sem,f2,f1,f6,f7,wi];exact⟨hlt,Keep.mk' ⟨by simp[go_sem,f2],by simp[go_sem,f1],by simp[go_sem,f6],by simp[go_sem],by rw[hnx,ZU,<-zB];simpa[go_sem,uD] using ho'⟩⟩
    |false =>
     simp[go_sem,f2,f1,f6,f7,f5,f9,f8,fm,wi];exact⟨hlt,Keep.mk' ⟨by simp[go_sem,f2],by simp[go_sem,f1],by simp[go_sem,f6],by simp[go_sem],by rw[hnx,ZU];simpa[go_sem,uD,f5,fm] using ho⟩⟩
  .have hke:k=pd.params.length:=by omega
   subst hke;rw[zU (by rw[u9];exact qr _)]at ho hlen;simp[go_sem,e2,e1,e6,e7,h5];refine qe.intro (by kernel_rfl) ?_;simp[go_sem,e2,e1,e6,e7,h5,hi,hpp,vC];refine qb.pure c1 wk ?_;by_cases hd0:D.1=0
   .have hrp:rp D=[]:=if_pos hd0
    rw[hrp];simp[go_sem,h5,hd0];exact rdDg (ZV ho _)
   .have hrp:rp D=[D]:=if_neg hd0
    rw[hrp];simp[go_sem,h5,hd0];refine wh (ys:=[D]) (ZV ho _) (by simp[qG]) (by simp only[zt,List.length_singleton];omega) fun av' m' ho' hm'=>?_
    simp[go_sem];rw[zB]at ho';exact rdDg ho'
theorem Yw(f:Nat->List Dg)(n:Nat):(qq (n+1)).flatMap f=(qq n).flatMap f++f n:=by
 rw[List.range_succ,List.flatMap_append];simp only[List.flatMap_cons,List.flatMap_nil,zx]
theorem qjC(ts:TS)(h:okTS ts)(wp:∀ p,p∈ts.preds->WfN p.body)(wf:∀ f,f∈ts.facts->WfN f.2)(dp:∀ p,p∈ts.preds->depN p.body<=24)(df:∀ f,f∈ts.facts->depN f.2<=24):qi qd 48 [eTS ts] (lDg (wQ ts)):=by
 have hnp:=h.np;have hnf:=h.nfa;have hD:(dups (repL eS ts.sorts)++dups (repL eF ts.fields)).length<=10:=by
  have a1:=Y16.uB (repL eS ts.sorts);have a2:=Y16.uB (repL eF ts.fields);rw[u9]at a1 a2;have:=h.ns;have:=h.nf;rw[zt];omega
 have hC:wQ ts=(dups (repL eS ts.sorts)++dups (repL eF ts.fields))++((qq ts.preds.length).flatMap (vH ts)++(qq ts.facts.length).flatMap (wc ts ts.facts)):=by
  unfold wQ;rw[zB]
 rw[hC];have hdc:=qi9 ts h [];generalize dups (repL eS ts.sorts)++dups (repL eF ts.fields)=D0 at *
 refine qSQ call48 func48 rfl {} ?_;simp[go_sem];refine qb.eff0 hdc (fun r m hr=>?_) (fun r m hr=>?_)
 case refine_2 =>
  obtain⟨av,e,_⟩:=hr;cases e
 obtain⟨av0,e,ho0,_⟩:=hr;cases e;simp[go_sem];refine ql.upK ts.preds.length (fun i st=>st.tm 1 = .ip (cTS ts)/\st.tm 4=aI i/\OwnF 0 st.mu 2 (st.tm 3) ((D0++(qq i).flatMap (vH ts)).map cDg)) ?_ ?_
 .exact ⟨by simp[go_sem],by simp[go_sem],by simpa[go_sem] using ho0⟩
 rintro i st hi ⟨e1,e4,ho⟩;have hlen:=Y16.WG (vH ts) (Y16.pK h) i;generalize h3:st.tm 3=av at *
 by_cases hlt:i<ts.preds.length
 .have hnx:=Yw (vH ts) i
  have hp1:=Y16.pK h i;have hdf:=qjB ts h wp i hlt (dp _ (qu hlt));have wi:qj.wrap ((i:Int)+1)=(i:Int)+1:=qg (by omega) (by omega);generalize vH ts i=PD at *
  simp[go_sem,e1,e4,h3,hlt];refine qb.pure hdf (.cons (.hf (zl ts)) (.cons (.hf (HF.sc _)) .nil)) ?_;simp[go_sem,e1,e4,h3,hlt];refine wh (ys:=PD) ho (by simp[qG]) (by simp only[zt];omega) fun av' m' ho' hm'=>?_
  simp[go_sem,e1,e4,wi];exact⟨hlt,Keep.mk' ⟨by simp[go_sem,e1],by simp[go_sem],by rw[hnx,<-zB];simpa[go_sem] using ho'⟩⟩
 .have hie:i=ts.preds.length:=by omega
  subst hie;simp[go_sem,e1,e4,h3];generalize (qq ts.preds.length).flatMap (vH ts)=P0 at *
  refine ql.upK ts.facts.length (fun i st=>st.tm 1 = .ip (cTS ts)/\st.tm 5=aI i/\OwnF 0 st.mu 2 (st.tm 3) (((D0++P0)++(qq i).flatMap (wc ts ts.facts)).map cDg)) ?_ ?_
  .exact ⟨by simp[go_sem,e1],by simp[go_sem],by simpa[go_sem,h3] using ho⟩
  clear ho e1 e4 h3 hlt hi st;rintro i st hi ⟨e1,e4,ho⟩;have hlen2:=Y16.WG (wc ts ts.facts) (Y16.qgC ts ts.facts) i;generalize h3:st.tm 3=av2 at *
  by_cases hlt:i<ts.facts.length
  .have hnx:=Yw (wc ts ts.facts) i
   have hfd:wc ts ts.facts i=dups [(ts.facts.take i).any (fun y=>eA ts.facts[i] y)]++rp (jO ts [] ts.facts[i].2):=by
    unfold wc;rw[qv hlt];simp only;rw[p8,qv hlt]
   rw[hfd]at hnx;have cf:=qi8 ts h wp [] ⟨by simp,by simp⟩ (by simp) ts.facts[i].2 (wf _ (qu hlt)) (df _ (qu hlt));have wi:qj.wrap ((i:Int)+1)=(i:Int)+1:=qg (by omega) (by omega);generalize jO ts [] ts.facts[i].2=D at *
   simp[go_sem,e1,e4,h3,hlt];refine ql.upK i (fun k st2=>st2.tm 1 = .ip (cTS ts)/\st2.tm 5=aI i/\st2.tm 3=av2/\st2.tm 7=aI k/\st2.tm 6=aB ((ts.facts.take k).any fun y=>eA ts.facts[i] y)/\st2.mu=st.mu) ?_ ?_
   .exact ⟨by simp[go_sem,e1],by simp[go_sem,e4],by simp[go_sem,h3],by simp[go_sem],by simp[go_sem],by simp[go_sem]⟩
   rintro k st2 hk ⟨f1,f4,f3,f6,f5,fm⟩;generalize hT:(ts.facts.take k).any (fun y=>eA ts.facts[i] y)=T at *
   by_cases hki:k<i
   .have hkl:k<ts.facts.length:=by omega
    have wk:qj.wrap ((k:Int)+1)=(k:Int)+1:=qg (by omega) (by omega);have hany:=VC (fun y=>eA ts.facts[i] y) ts.facts k hkl;rw[hT]at hany;simp[go_sem,f1,f4,f3,f6,f5,hki];refine qe.intro (by kernel_rfl) ?_;cases T with
    |true =>
     rw[Bool.true_or]at hany;simp[go_sem,f1,f4,f3,f6,f5,hki,hkl,hlt,wk];exact Keep.mk' ⟨by simp[go_sem,f1],by simp[go_sem,f4],by simp[go_sem,f3],by simp[go_sem],by rw[hany];simp[go_sem],by simp[go_sem,fm]⟩
    |false =>
     rw[Bool.false_or]at hany;by_cases hq:ts.facts[k].1=ts.facts[i].1
     .have hany2:(ts.facts.take (k+1)).any (fun y=>eA ts.facts[i] y)=true:=by rw[hany];exact decide_eq_true hq.symm
      simp[go_sem,f1,f4,f3,f6,f5,hki,hkl,hlt,wk,hq];exact Keep.mk' ⟨by simp[go_sem,f1],by simp[go_sem,f4],by simp[go_sem,f3],by simp[go_sem],by rw[hany2];simp[go_sem],by simp[go_sem,fm]⟩
     .have hany2:(ts.facts.take (k+1)).any (fun y=>eA ts.facts[i] y)=false:=by rw[hany];exact decide_eq_false fun e=>hq e.symm
      simp[go_sem,f1,f4,f3,f6,f5,hki,hkl,hlt,wk,vd hq];exact Keep.mk' ⟨by simp[go_sem,f1],by simp[go_sem,f4],by simp[go_sem,f3],by simp[go_sem],by rw[hany2];simp[go_sem],by simp[go_sem,fm]⟩
   .have hke:k=i:=by omega
    subst hke;rw[hT]at hnx;have wkf:WKs [eTS ts,.lst true [],eNd ts.facts[k].2] [eTS ts,lPm [],eNd ts.facts[k].2] := .cons (.hf (zl ts)) (.cons (WK.lst fun r hr=>absurd hr zr) (.cons (.hf (qI _)) .nil));have hrw:=kh;cases T with
    |true =>
     simp[go_sem,f1,f4,f3,f6,f5,fm];refine wh (ys:=[(41,0)]) ho (by simp[qG]) (by simp only[zt,List.length_singleton];omega) fun av' m' ho' hm'=>?_
     simp[go_sem,f1,f4,wi];refine qe.intro (by kernel_rfl) ?_;simp[go_sem,f1,f4,wi,hlt];refine qb.pure cf wkf ?_;by_cases hd0:D.1=0
     .have hrp:rp D=[]:=if_pos hd0
      rw[hrp,zx]at hnx;simp[go_sem,f1,f3,f4,wi,hd0,fm];exact⟨hlt,Keep.mk' ⟨by simp[go_sem,f1],by simp[go_sem],by rw[hnx,<-zB];simpa[go_sem,uD] using ZV ho' (.arr [aI 0,aI D.2])⟩⟩
     .have hrp:rp D=[D]:=if_neg hd0
      rw[hrp]at hnx;simp[go_sem,f1,f3,f4,wi,hd0,fm];refine wh (ys:=[D]) (ZV ho' _) (by simp[qG]) (by simp only[zt,List.length_singleton];omega) fun av2' m2' ho2' hm2'=>?_
      simp[go_sem,f1,f4,wi];exact⟨hlt,Keep.mk' ⟨by simp[go_sem,f1],by simp[go_sem],by rw[hnx,<-zB];simpa[go_sem,uD,zB] using ho2'⟩⟩
    |false =>
     simp[go_sem,f1,f4,f3,f6,f5,fm,wi];refine qe.intro (by kernel_rfl) ?_;simp[go_sem,f1,f4,f3,f6,f5,fm,wi,hlt];refine qb.pure cf wkf ?_;by_cases hd0:D.1=0
     .have hrp:rp D=[]:=if_pos hd0
      rw[hrp,zx]at hnx;simp[go_sem,f1,f3,f4,wi,hd0,fm];exact⟨hlt,Keep.mk' ⟨by simp[go_sem,f1],by simp[go_sem],by rw[hnx,<-zB];simpa[go_sem,uD,f3] using ZV ho (.arr [aI 0,aI D.2])⟩⟩
     .have hrp:rp D=[D]:=if_neg hd0
      rw[hrp]at hnx;simp[go_sem,f1,f3,f4,wi,hd0,fm];refine wh (ys:=[D]) (ZV ho _) (by simp[qG]) (by simp only[zt,List.length_singleton];omega) fun av2' m2' ho2' hm2'=>?_
      simp[go_sem,f1,f4,wi];exact⟨hlt,Keep.mk' ⟨by simp[go_sem,f1],by simp[go_sem],by rw[hnx,<-zB];simpa[go_sem,uD,zB] using ho2'⟩⟩
  .have hie:i=ts.facts.length:=by omega
   subst hie;simp[go_sem,e1,e4,h3];rw[zB]at ho;exact rdDg ho
end QU
namespace QP
end QP
namespace QV
open QE QF
abbrev tupR(s:RS)(m:Nat):List (List Int):=((qq m).filter s.2).map (dig s.1)
theorem U6(s:RS)(m:Nat):(tupR s m).length<=m:=by
 rw[yM];exact q7 (List.length_filter_le ..) (by simp)
end QV
namespace PD
open P1 P2 Y1 Y2 YX PA PB PC
structure ArgR (c0:Ck) (es:List (ByteArray×Bool)) (L:Int) (s':Scp) (k:Kd) (a:Nd):Prop where
 ex:∃ k',exam c0 s' true a = .ok (some k')/\Sub k' k
 good:GoodN es L a
 kd:kd a.op=101
def RlV(c0:Ck)(es:List (ByteArray×Bool))(L:Int)(s':Scp)(v:ByteArray):Option Kd->Option IV->Prop
 |none,none=>True
 |none,some _=>False
 |some k,none=>∃ k',lookS v s'=some k'/\Sub k' k
 |some k,some ⟨some a,_,_⟩=>ArgR c0 es L s' k a
 |some k,some ⟨none,_,to⟩=>(∃ k',lookS to s'=some k'/\Sub k' k)/\vLe es L to
structure Rl (c0:Ck) (es:List (ByteArray×Bool)) (L:Int) (body:Bool) (s s':Scp) (env:IEnv):Prop where
 mean:∀ v,v∈s'->jN c0.ts v.1=[]
 rel:∀ v,tkn es v->RlV c0 es L s' v (lookS v s) (getK v env)
 arg:body=false->∀ v iv,getK v env=some iv->iv.arg=none
end PD
namespace PE
open P1 P2 Y1 Y2 YX PD
def OwnV(c0:Ck)(es:List (ByteArray×Bool))(L:Int)(s':Scp):Option Kd->Option IV->Prop
 |none,none=>True
 |some k,some ⟨some a,_,_⟩=>ArgR c0 es L s' k a
 |_,_=>False
theorem nD{n:Nd}(hw:WfN n)(h:n.op=47):∀ k,k∈n.kids->kd k.op=101:=by
 have hsh:=hw.shape;have e:shp n.op n.kids.length=some (qX (min n.kids.length 401) 101):=by
  unfold shp;rw[if_neg (by omega),if_neg (by omega),if_neg (by omega),if_neg (by omega),if_neg (by omega),if_neg (by omega),if_neg (by omega),if_pos h]
 rw[e]at hsh;simp only[qn]at hsh;intro k hk;have:kd k.op∈n.kids.map fun k=>kd k.op:=qs.2 ⟨k,hk,rfl⟩
 rw[<-hsh]at this;exact List.eq_of_mem_replicate this
theorem nE{n:Nd}(hw:WfN n)(h:n.op=15\/n.op=45\/n.op=46):∃ a f,n.kids=[a,f]/\kd a.op=101:=by
 have hs:=hw.shape;unfold shp at hs;rw[if_neg (by omega),if_neg (by omega),if_neg (by omega),if_pos (by omega)]at hs;simp only[qn]at hs
 match hk:n.kids,hs with
 | [a,f],hs =>
  simp at hs;exact⟨a,f,rfl,hs.1.symm⟩
 | [],hs=>simp at hs
 | [_],hs=>simp at hs
 |_ :: _ :: _ :: _,hs=>simp at hs
end PE
namespace PF
end PF
namespace QW
open Y1 YZ
theorem WQ:∀ a b:List Nd,y8 (a++b)=y8 a++y8 b
 | [],b=>rfl
 |x :: a,b=>by rw[List.cons_append];simp only[y8];rw[WQ a b,zB]
end QW
namespace QX
open Y9 Y1 YZ
theorem two{α:Type}{l:List α}{a b:α}(h0:l[0]?=some a)(h1:l[1]?=some b):∃ r,l=a :: b :: r:=by
 match l,h0,h1 with
 |_ :: _ :: r,h0,h1 =>
  simp at h0 h1;exact⟨r,by rw[h0,h1]⟩
def cAr:Option Nd->List AV
 |some a=>cNd a
 |none=>[aI 0,aS ⟨#[]⟩,aI 0,.lst true [],aI 0]
@[go_sem] theorem cAr_some(a:Nd):cAr (some a)=cNd a:=rfl
@[go_sem] theorem cAr_none:cAr none=[aI 0,aS ⟨#[]⟩,aI 0,.lst true [],aI 0]:=rfl
theorem nK:∀(m:Nat) (n:Nd),szN n<=m->Small n->depN n<=1000000->qi qd 73 [eNd n] (aI (depN n))
 | 0,n,hm,_,_=>by obtain⟨op,nm,i,ks,p⟩:=n;simp[szN]at hm
 |m+1,n,hm,hs,hd=>by
  have ih:∀ k,k∈n.kids->qi qd 73 [eNd k] (aI (depN k)):=fun k hk =>
   nK m k (by have:=yi hk;omega) (hs.kid hk) (by rw[ZL]at hd;have:=ge hk;omega)
  rw[ZL]at hd⊢;have hlen:=hs.len;have hnn:=Vp n.kids;generalize hD:yo n.kids=D at *
  refine qSQ call73 func73 rfl {} ?_;simp[go_sem];refine ql.upK n.kids.length (fun k st=>∃ d,st.tm 3=aI d/\st.tm 1 = .ip (cNd n)/\st.tm 4=aI k/\0<=d/\max d (yo (n.kids.drop k))=D) ?_ ?_
  .exact ⟨0,by simp[go_sem],by simp[go_sem],by simp[go_sem],by omega,by simp only[List.drop_zero,hD];omega⟩
  .rintro k st hk ⟨d,e3,e1,e4,hd0,hI⟩
   by_cases hkl:k=n.kids.length
   .subst hkl
    rw[zL]at hI;simp only[yo]at hI;have hdD:d=D:=by omega
    subst hdD;have w:qj.wrap (d+1)=d+1:=qg (by omega) (by omega);simp[go_sem,e3,e1,e4,w];exact .hf _ (HF.sc _)
   .have hlt:k<n.kids.length:=by omega
    have w1:qj.wrap ((k:Int)+1)=(k:Int)+1:=qg (by omega) (by omega);rw[zj hlt]at hI;simp only[yo]at hI;simp[go_sem,e3,e1,e4,hlt,qo];refine qb.pure (ih n.kids[k] (qu hlt)) (.cons (.hf (qI _)) .nil) ?_;simp[go_sem,e3,e1,e4,w1];refine⟨hlt,Keep.mk' ?_⟩;refine⟨if d<depN n.kids[k] then depN n.kids[k] else d,by simp[go_sem],by simp[go_sem,e1],by simp[go_sem],?_,?_⟩
    .have:=p9 n.kids[k]
     split<;>omega
    .split<;>omega
end QX
namespace FE
open Y1 Y9 P2 YF E3 E5 Q1 Q4 F1
theorem rd_ks{mu:Mu}(full:Bool)(ks:List Nd):Rd mu (.lst full (ks.map cNd)) (lNd ks):=by
 refine .wk _ full _ (.hf _ (HF.lst fun r hr c hc=>?_));obtain⟨b,_,rfl⟩:=qs.1 hr;exact vz b c hc
theorem Vu{mu:Mu}(full:Bool)(op:Int)(nm:ByteArray)(i:Int)(ks:List Nd)(q:Int):Rd mu (.agg [aI op,aS nm,aI i,.lst full (ks.map cNd),aI q]) (eNd (.mk op nm i ks q)):=by
 have hq:cNd (.mk op nm i ks q)=[aI op,aS nm,aI i,lNd ks,aI q]:=by rw[jM];rfl
 rw[eNd,hq];refine .agg _ _ rfl fun k x y hx hy=>?_
 match k,hx,hy with
 | 0,hx,hy=>simp at hx hy;subst hx;subst hy;exact .hf _ (HF.sc _)
 | 1,hx,hy=>simp at hx hy;subst hx;subst hy;exact .hf _ (HF.sc _)
 | 2,hx,hy=>simp at hx hy;subst hx;subst hy;exact .hf _ (HF.sc _)
 | 3,hx,hy=>simp at hx hy;subst hx;subst hy;exact rd_ks full ks
 | 4,hx,hy=>simp at hx hy;subst hx;subst hy;exact .hf _ (HF.sc _)
 |k+5,hx,hy=>simp at hx
theorem qA(op:Int)(ks:List Nd):qi qd 28 [aI op,lNd ks] (eNd (nk op ks)):=by
 refine qSQ call28 func28 rfl {} ?_;simp[go_sem];exact Vu false op ⟨#[]⟩ 0 ks 0
theorem y9(nm:ByteArray):qi qd 46 [aS nm] (eNd (.mk 1 nm 0 [] 0)):=by
 refine qSQ call46 func46 rfl {} ?_;simp[go_sem];exact Vu true 1 nm 0 [] 0
theorem VD(op:Int)(nm:ByteArray)(d f:Nd):qi qd 26 [aI op,aS nm,eNd d,eNd f] (eNd (nb op nm d f)):=by
 refine qSQ call26 func26 rfl {} ?_;simp[go_sem];exact Vu true op nm 0 [d,f] 0
theorem qjD(n:Nd):qi qd 27 [eNd n] (aB (decide (kd n.op=102))):=by
 refine qSQ call27 func27 rfl {} ?_;simp[go_sem];refine qb.pure (WI n.op) (.cons (.hf (HF.sc _)) .nil) ?_;simp[go_sem];exact .hf _ (HF.sc _)
theorem nL(n:Nd):qi qd 30 [eNd n] (aB (decide (kd n.op=101))):=by
 refine qSQ call30 func30 rfl {} ?_;simp[go_sem];refine qb.pure (WI n.op) (.cons (.hf (HF.sc _)) .nil) ?_;simp[go_sem];exact .hf _ (HF.sc _)
theorem wk5(x:Mo)(p:Pl)(n:Nd):WKs [eTS x.ts,eMd x.m,aI p.st,lPm p.env,eNd n] [eTS x.ts,eMd x.m,aI p.st,lPm p.env,eNd n] := .cons (.hf (zl _)) (.cons (.hf (yx _)) (.cons (.hf (HF.sc _)) (.cons (.hf (yH _)) (.cons (.hf (qI _)) .nil))))
theorem nM:∀(m:Nat) (n:Nd),szN n<=m->∀ left:Int,-1000000<=left/\left<=1000000->qi qd 72 [eNd n,aI left] (aI (cntN n left))
 | 0,n,hm,_,_=>by obtain⟨op,nm,i,ks,p⟩:=n;simp[szN]at hm
 |m+1,n,hm,left,hl=>by
  have ih:∀ k,k∈n.kids->∀ left:Int,-1000000<=left/\left<=1000000->qi qd 72 [eNd k,aI left] (aI (cntN k left)):=fun k hk =>
   nM m k (by have:=yi hk;omega)
  rw[WJ];generalize hR:yK n.kids left 1=R;refine qSQ call72 func72 rfl {} ?_;simp[go_sem];refine ql.upK n.kids.length (fun k st=>∃ sum:Int,st.tm 1=aI left/\st.tm 2 = .ip (cNd n)/\st.tm 5=aI sum/\st.tm 6=aI k/\(k:Int)+1<=sum/\(sum<=left+1\/sum=1)/\yK (n.kids.drop k) left sum=R) ?_ ?_
  .exact ⟨1,by simp[go_sem],by simp[go_sem],by simp[go_sem],by simp[go_sem],by omega,by omega,by simpa using hR⟩
  .rintro k st hk ⟨sum,e1,e2,e5,e6,hs1,hs2,hI⟩
   by_cases hkl:k=n.kids.length
   .subst hkl
    rw[zL]at hI;simp only[yK]at hI;subst hI;simp[go_sem,e1,e2,e5,e6];exact .hf _ (HF.sc _)
   .have hlt:k<n.kids.length:=by omega
    rw[zj hlt]at hI;simp only[yK]at hI;by_cases hc:sum<=left
    .rw [if_pos hc]at hI
     have w1:qj.wrap ((k:Int)+1)=(k:Int)+1:=qg (by omega) (by omega);have w2:qj.wrap (left-sum)=left-sum:=qg (by omega) (by omega);have hcl:=Vn n.kids[k] (left-sum);have w3:qj.wrap (sum+cntN n.kids[k] (left-sum))=sum+cntN n.kids[k] (left-sum):=qg (by omega) (by omega);simp[go_sem,e1,e2,e5,e6,hlt,hc,w2,qo];refine qb.pure (ih n.kids[k] (qu hlt) (left-sum) ⟨by omega,by omega⟩) (.cons (.hf (qI _)) (.cons (.hf (HF.sc _)) .nil)) ?_;simp[go_sem,e1,e2,e5,e6,w1,w3];refine⟨hlt,Keep.mk' ?_⟩;exact⟨sum+cntN n.kids[k] (left-sum),by simp[go_sem,e1],by simp[go_sem,e2],by simp[go_sem],by simp[go_sem],by omega,by omega,hI⟩
    .rw [if_neg hc]at hI
     subst hI;simp[go_sem,e1,e2,e5,e6,hlt,hc];exact .hf _ (HF.sc _)
def zV(op a s:Int)(i:Nat)(k:Int):Int:=if op=48\/op=49\/op=51 then k*s else if i=1/\(op=45\/op=46\/op=15) then k*a else k
def minW(v:Int):Int:=if 1000000<v then 1000000 else v
mutual
def wkN(a s:Int):Nd->Int
 | .mk op _ _ ks _=>wkNs a s op 0 ks 1
def wkNs(a s op:Int):Nat->List Nd->Int->Int
 |_,[],sum=>sum
 |i,k :: ks,sum=>wkNs a s op (i+1) ks (minW (sum+zV op a s i (wkN a s k)))
end
theorem qjE(a s:Int)(n:Nd):wkN a s n=wkNs a s n.op 0 n.kids 1:=by
 obtain⟨op,nm,i,ks,q⟩:=n;rw[wkN];rfl
theorem nN{op a s:Int}{i:Nat}{k:Int}(ha:0<=a/\a<=100)(hs:0<=s/\s<=100)(hk:0<=k/\k<=1000000):0<=zV op a s i k/\zV op a s i k<=100000000:=by
 unfold zV;have m1:=Int.mul_nonneg hk.1 ha.1;have m2:=Int.mul_nonneg hk.1 hs.1;have m3:k*a<=1000000*100:=jp hk.2 ha.2 ha.1 (by omega);have m4:k*s<=1000000*100:=jp hk.2 hs.2 hs.1 (by omega);split
 .omega
 .split<;>omega
theorem nO{v:Int}(h:0<=v):0<=minW v/\minW v<=1000000:=by unfold minW;split<;>omega
mutual
theorem nP(a s:Int)(ha:0<=a/\a<=100)(hs:0<=s/\s<=100):∀ n:Nd,0<=wkN a s n/\wkN a s n<=1000000
 | .mk op _ _ ks _=>by rw[wkN];exact nQ a s ha hs op ks 0 1 (by omega)
theorem nQ(a s:Int)(ha:0<=a/\a<=100)(hs:0<=s/\s<=100)(op:Int):∀(ks:List Nd) (i:Nat) (sum:Int),0<=sum/\sum<=1000000->0<=wkNs a s op i ks sum/\wkNs a s op i ks sum<=1000000
 | [],_,sum,h=>by rw[wkNs];exact h
 |k :: ks,i,sum,h=>by
  rw[wkNs];have h1:=nP a s ha hs k;have h2:=nN (op:=op) (i:=i) ha hs h1;exact nQ a s ha hs op ks (i+1) _ (nO (by omega))
end
theorem nR(a s:Int)(ha:0<=a/\a<=100)(hs:0<=s/\s<=100):∀(m:Nat) (n:Nd),szN n<=m->Small n->qi qd 50 [eNd n,aI a,aI s] (aI (wkN a s n))
 | 0,n,hm,_=>by obtain⟨op,nm,i,ks,p⟩:=n;simp[szN]at hm
 |m+1,n,hm,hsm=>by
  have ih:∀ k,k∈n.kids->qi qd 50 [eNd k,aI a,aI s] (aI (wkN a s k)):=fun k hk=>nR a s ha hs m k (by have:=yi hk;omega) (hsm.kid hk)
  rw[qjE];have hlen:=hsm.len;generalize hR:wkNs a s n.op 0 n.kids 1=R;refine qSQ call50 func50 rfl {} ?_;simp[go_sem];refine ql.upK n.kids.length (fun k st=>∃ sum:Int,st.tm 1=aI a/\st.tm 2=aI s/\st.tm 3 = .ip (cNd n)/\st.tm 7=aI sum/\st.tm 8=aI k/\(0<=sum/\sum<=1000000)/\wkNs a s n.op k (n.kids.drop k) sum=R) ?_ ?_
  .exact ⟨1,by simp[go_sem],by simp[go_sem],by simp[go_sem],by simp[go_sem],by simp[go_sem],by omega,by simpa using hR⟩
  .rintro k st hk ⟨sum,e1,e2,e3,e7,e8,hs1,hI⟩
   by_cases hkl:k=n.kids.length
   .subst hkl
    rw[zL,wkNs]at hI;subst hI;simp[go_sem,e1,e2,e3,e7,e8];exact .hf _ (HF.sc _)
   .have hlt:k<n.kids.length:=by omega
    rw[zj hlt,wkNs]at hI;have w1:qj.wrap ((k:Int)+1)=(k:Int)+1:=qg (by omega) (by omega);have hwk:=nP a s ha hs n.kids[k];have hsl:=nN (op:=n.op) (i:=k) ha hs hwk;have hml:=nO (v:=sum+zV n.op a s k (wkN a s n.kids[k])) (by omega);have m1:=Int.mul_nonneg hwk.1 ha.1;have m2:=Int.mul_nonneg hwk.1 hs.1;have m3:wkN a s n.kids[k] * a<=1000000*100:=jp hwk.2 ha.2 ha.1 (by omega);have m4:wkN a s n.kids[k] * s<=1000000*100:=jp hwk.2 hs.2 hs.1 (by omega);simp[go_sem,e1,e2,e3,e7,e8,hlt,qo];refine qb.pure (ih n.kids[k] (qu hlt)) (.cons (.hf (qI _)) (.cons (.hf (HF.sc _)) (.cons (.hf (HF.sc _)) .nil))) ?_;generalize wkN a s n.kids[k]=K at *
    by_cases ik:k=1
    .have ik':(k:Int)=1:=by omega
     by_cases o48:n.op=48
     .have hv:zV n.op a s k K=K*s:=by simp[zV,o48,ik,ik']
      rw[hv]at hI hml;have w2:qj.wrap (K*s)=K*s:=qg (by omega) (by omega);have w3:qj.wrap (sum+K*s)=sum+K*s:=qg (by omega) (by omega);simp[go_sem,e1,e2,e3,e7,e8,w1,w2,w3,hlt,o48,eq_true ik,eq_true ik'];exact Keep.mk' ⟨_,by simp[go_sem,e1],by simp[go_sem,e2],by simp[go_sem,e3],by simp[go_sem,minW],by simp[go_sem],hml,hI⟩
     by_cases o49:n.op=49
     .have hv:zV n.op a s k K=K*s:=by simp[zV,o49,ik,ik']
      rw[hv]at hI hml;have w2:qj.wrap (K*s)=K*s:=qg (by omega) (by omega);have w3:qj.wrap (sum+K*s)=sum+K*s:=qg (by omega) (by omega);simp[go_sem,e1,e2,e3,e7,e8,w1,w2,w3,hlt,o49,eq_true ik,eq_true ik'];exact Keep.mk' ⟨_,by simp[go_sem,e1],by simp[go_sem,e2],by simp[go_sem,e3],by simp[go_sem,minW],by simp[go_sem],hml,hI⟩
     by_cases o51:n.op=51
     .have hv:zV n.op a s k K=K*s:=by simp[zV,o51,ik,ik']
      rw[hv]at hI hml;have w2:qj.wrap (K*s)=K*s:=qg (by omega) (by omega);have w3:qj.wrap (sum+K*s)=sum+K*s:=qg (by omega) (by omega);simp[go_sem,e1,e2,e3,e7,e8,w1,w2,w3,hlt,o51,eq_true ik,eq_true ik'];exact Keep.mk' ⟨_,by simp[go_sem,e1],by simp[go_sem,e2],by simp[go_sem,e3],by simp[go_sem,minW],by simp[go_sem],hml,hI⟩
     by_cases o45:n.op=45
     .have hv:zV n.op a s k K=K*a:=by simp[zV,o45,ik,ik']
      rw[hv]at hI hml;have w2:qj.wrap (K*a)=K*a:=qg (by omega) (by omega);have w3:qj.wrap (sum+K*a)=sum+K*a:=qg (by omega) (by omega);simp[go_sem,e1,e2,e3,e7,e8,w1,w2,w3,hlt,o45,eq_true ik,eq_true ik'];exact Keep.mk' ⟨_,by simp[go_sem,e1],by simp[go_sem,e2],by simp[go_sem,e3],by simp[go_sem,minW],by simp[go_sem],hml,hI⟩
     by_cases o46:n.op=46
     .have hv:zV n.op a s k K=K*a:=by simp[zV,o46,ik,ik']
      rw[hv]at hI hml;have w2:qj.wrap (K*a)=K*a:=qg (by omega) (by omega);have w3:qj.wrap (sum+K*a)=sum+K*a:=qg (by omega) (by omega);simp[go_sem,e1,e2,e3,e7,e8,w1,w2,w3,hlt,o46,eq_true ik,eq_true ik'];exact Keep.mk' ⟨_,by simp[go_sem,e1],by simp[go_sem,e2],by simp[go_sem,e3],by simp[go_sem,minW],by simp[go_sem],hml,hI⟩
     by_cases o15:n.op=15
     .have hv:zV n.op a s k K=K*a:=by simp[zV,o15,ik,ik']
      rw[hv]at hI hml;have w2:qj.wrap (K*a)=K*a:=qg (by omega) (by omega);have w3:qj.wrap (sum+K*a)=sum+K*a:=qg (by omega) (by omega);simp[go_sem,e1,e2,e3,e7,e8,w1,w2,w3,hlt,o15,eq_true ik,eq_true ik'];exact Keep.mk' ⟨_,by simp[go_sem,e1],by simp[go_sem,e2],by simp[go_sem,e3],by simp[go_sem,minW],by simp[go_sem],hml,hI⟩
     have hv:zV n.op a s k K=K:=by simp[zV,o48,o49,o51,o45,o46,o15,ik,ik']
     rw[hv]at hI hml;have w2:=w1;have w3:qj.wrap (sum+K)=sum+K:=qg (by omega) (by omega);simp[go_sem,e1,e2,e3,e7,e8,w1,w2,w3,hlt,o48,o49,o51,o45,o46,o15,eq_true ik,eq_true ik'];exact Keep.mk' ⟨_,by simp[go_sem,e1],by simp[go_sem,e2],by simp[go_sem,e3],by simp[go_sem,minW],by simp[go_sem],hml,hI⟩
    .have ik':¬(k:Int)=1:=by omega
     by_cases o48:n.op=48
     .have hv:zV n.op a s k K=K*s:=by simp[zV,o48,ik,ik']
      rw[hv]at hI hml;have w2:qj.wrap (K*s)=K*s:=qg (by omega) (by omega);have w3:qj.wrap (sum+K*s)=sum+K*s:=qg (by omega) (by omega);simp[go_sem,e1,e2,e3,e7,e8,w1,w2,w3,hlt,o48,ik,ik'];exact Keep.mk' ⟨_,by simp[go_sem,e1],by simp[go_sem,e2],by simp[go_sem,e3],by simp[go_sem,minW],by simp[go_sem],hml,hI⟩
     by_cases o49:n.op=49
     .have hv:zV n.op a s k K=K*s:=by simp[zV,o49,ik,ik']
      rw[hv]at hI hml;have w2:qj.wrap (K*s)=K*s:=qg (by omega) (by omega);have w3:qj.wrap (sum+K*s)=sum+K*s:=qg (by omega) (by omega);simp[go_sem,e1,e2,e3,e7,e8,w1,w2,w3,hlt,o49,ik,ik'];exact Keep.mk' ⟨_,by simp[go_sem,e1],by simp[go_sem,e2],by simp[go_sem,e3],by simp[go_sem,minW],by simp[go_sem],hml,hI⟩
     by_cases o51:n.op=51
     .have hv:zV n.op a s k K=K*s:=by simp[zV,o51,ik,ik']
      rw[hv]at hI hml;have w2:qj.wrap (K*s)=K*s:=qg (by omega) (by omega);have w3:qj.wrap (sum+K*s)=sum+K*s:=qg (by omega) (by omega);simp[go_sem,e1,e2,e3,e7,e8,w1,w2,w3,hlt,o51,ik,ik'];exact Keep.mk' ⟨_,by simp[go_sem,e1],by simp[go_sem,e2],by simp[go_sem,e3],by simp[go_sem,minW],by simp[go_sem],hml,hI⟩
     have hv:zV n.op a s k K=K:=by simp[zV,o48,o49,o51,ik,ik']
     rw[hv]at hI hml;have w2:=w1;have w3:qj.wrap (sum+K)=sum+K:=qg (by omega) (by omega);simp[go_sem,e1,e2,e3,e7,e8,w1,w2,w3,hlt,o48,o49,o51,ik,ik'];exact Keep.mk' ⟨_,by simp[go_sem,e1],by simp[go_sem,e2],by simp[go_sem,e3],by simp[go_sem,minW],by simp[go_sem],hml,hI⟩
end FE
namespace FF
open Y1 Y9 Y16 YZ P1 YF E3 E9 Q4 Q8 QX F1 F2 FD FE
mutual
theorem VE:∀ n:Nd,depN n=(dN n:Int)
 | .mk _ _ _ ks _=>by simp only[depN,dN];rw[nS ks];omega
theorem nS:∀ ks:List Nd,yo ks=(dNs ks:Int)
 | []=>rfl
 |k :: ks=>by simp only[yo,dNs];rw[VE k,nS ks];omega
end
def wm(m:Md)(n:Nd):Bool:=zT n&&decide (wkN (sumI m.sc.atoms) m.states.length n<=3000)
theorem nT(m:Md)(g:GSc m.sc)(hs:m.states.length<=64)(n:Nd):qi qd 13 [eMd m,eNd n] (aB (wm m n)):=by
 have hv:=WM n;have hsum:=g.sum m.sc.atoms.length;rw[zw]at hsum;refine qSQ call13 func13 rfl {} ?_;simp[go_sem];refine qb.pure hv (.cons (.hf (qI n)) .nil) ?_;cases hb:zT n with
 |false =>
  simp[go_sem,wm,hb];refine qe.intro (by kernel_rfl) ?_;simp[go_sem];exact .hf _ (HF.sc _)
 |true =>
  have hw:=nR (sumI m.sc.atoms) m.states.length (by omega) (by omega) (szN n) n (qr _) (vI hb).small;simp[go_sem,wm,hb];refine qe.intro (by kernel_rfl) ?_;simp[go_sem];refine qb.pure (Qv m.sc g) (.cons (.hf (yZ m.sc)) .nil) ?_;simp[go_sem];refine qb.pure hw (.cons (.hf (qI n)) (.cons (.hf (HF.sc _)) (.cons (.hf (HF.sc _)) .nil))) ?_;simp[go_sem];exact .hf _ (HF.sc _)
def smB(m:Md)(n:Nd):Bool:=wm m n&&(decide (cntN n 90<=90)&&decide (depN n<=18))
theorem qjF(m:Md)(g:GSc m.sc)(hs:m.states.length<=64)(n:Nd):qi qd 25 [eMd m,eNd n] (aB (smB m n)):=by
 have hl:=nT m g hs n;have hc:=nM (szN n) n (qr _) 90 (by omega);refine qSQ call25 func25 rfl {} ?_;simp[go_sem];refine qb.pure hl (.cons (.hf (yx m)) (.cons (.hf (qI n)) .nil)) ?_;cases hb:wm m n with
 |false =>
  simp[go_sem,smB,hb];exact .hf _ (HF.sc _)
 |true =>
  have hvb:zT n=true:=by simp only[wm,qx]at hb;exact hb.1
  have hd:=nK (szN n) n (qr _) (vI hvb).small (by rw[VE];have:=we hvb;omega);simp[go_sem,smB,hb];refine qb.pure hc (.cons (.hf (qI n)) (.cons (.hf (HF.sc _)) .nil)) ?_;by_cases h9:cntN n 90<=90
  .simp [go_sem,h9]
   refine qb.pure hd (.cons (.hf (qI n)) .nil) ?_;simp[go_sem];exact .hf _ (HF.sc _)
  .simp [go_sem,h9]
   exact .hf _ (HF.sc _)
noncomputable def fitB(ts:TS)(m:Md)(s:Int)(env:List (ByteArray×Int))(D:List Dg):Bool:=
 yn ts&&(ZG (spOf ts) m&&(dec (MVal (spOf ts) m)&&(decide (D.length=0)&&(decide (0<=s)&&(decide (s<m.states.length)&&(decide (env.length<=8)&&env.all fun e=>decide (0<=e.2)&&decide (e.2<sumI m.sc.atoms)))))))
theorem Xf{p:Prop}(h:dec p=true):p:=@of_decide_eq_true p (Classical.propDecidable p) h
theorem qjG(ts:TS)(m:Md)(s:Int)(env:List (ByteArray×Int))(D:List Dg)(hD:yn ts=true->qi qd 48 [eTS ts] (lDg D)):qi qd 12 [eTS ts,eMd m,aI s,lPm env] (aB (fitB ts m s env D)):=by
 generalize hR:fitB ts m s env D=R;unfold fitB at hR;refine qSQ call12 func12 rfl {} ?_;simp[go_sem];refine qb.pure (qgO ts) (.cons (.hf (zl ts)) .nil) ?_;cases h1:yn ts with
 |false =>
  rw[h1]at hR;replace hR:false=R:=hR;subst hR;simp[go_sem];exact .hf _ (HF.sc _)
 |true =>
  rw[h1,Bool.true_and]at hR;simp[go_sem];refine qb.pure (pC (spOf ts) m) (.cons (.hf (zl ts)) (.cons (.hf (yx _)) .nil)) ?_;cases h2:ZG (spOf ts) m with
  |false =>
   rw[h2]at hR;replace hR:false=R:=hR;subst hR;simp[go_sem];exact .hf _ (HF.sc _)
  |true =>
   rw[h2,Bool.true_and]at hR;simp[go_sem];refine qb.pure (pF (spOf ts) m (YJ.1 h2)) (.cons (.hf (zl ts)) (.cons (.hf (yx _)) .nil)) ?_;cases h3:dec (MVal (spOf ts) m) with
   |false =>
    rw[h3]at hR;replace hR:false=R:=hR;subst hR;simp[go_sem];exact .hf _ (HF.sc _)
   |true =>
    rw[h3,Bool.true_and]at hR;simp[go_sem];refine qb.pure (hD h1) (.cons (.hf (zl ts)) .nil) ?_;by_cases c1:0<D.length
    .rw [decide_eq_false (show ¬D.length=0 by omega)]at hR;replace hR:false=R:=hR;subst hR
     simp[go_sem,c1];exact .hf _ (HF.sc _)
    rw[decide_eq_true (show D.length=0 by omega),Bool.true_and]at hR;by_cases c2:s<0
    .rw [decide_eq_false (show ¬ 0<=s by omega)]at hR;replace hR:false=R:=hR;subst hR
     simp[go_sem,c1,c2];exact .hf _ (HF.sc _)
    rw[decide_eq_true (show 0<=s by omega),Bool.true_and]at hR;by_cases c3:(m.states.length:Int)<=s
    .rw [decide_eq_false (show ¬s<m.states.length by omega)]at hR;replace hR:false=R:=hR;subst hR
     simp[go_sem,c1,c2,c3];exact .hf _ (HF.sc _)
    rw[decide_eq_true (show s<m.states.length by omega),Bool.true_and]at hR;by_cases c4:(8:Int)<env.length
    .rw [decide_eq_false (show ¬env.length<=8 by omega)]at hR;replace hR:false=R:=hR;subst hR
     simp[go_sem,c1,c2,c3,c4];exact .hf _ (HF.sc _)
    rw[decide_eq_true (show env.length<=8 by omega),Bool.true_and]at hR;have hmv:MVal (spOf ts) m:=Xf h3;have hg:GSc m.sc:=WB hmv.sc;simp[go_sem,c1,c2,c3,c4];refine qb.pure (Qv m.sc hg) (.cons (.hf (yZ m.sc)) .nil) ?_;simp[go_sem];refine ql.upK env.length (fun k st=>st.tm 3=lPm env/\st.tm 10=aI (sumI m.sc.atoms)/\st.tm 11=aI k/\((env.drop k).all fun e=>decide (0<=e.2)&&decide (e.2<sumI m.sc.atoms))=R) ?_ ?_
    .exact ⟨by simp[go_sem],by simp[go_sem],by simp[go_sem],hR⟩
    rintro k st hk ⟨e3,e10,e11,hI⟩;by_cases hlt:k<env.length
    .have w1:qj.wrap ((k:Int)+1)=(k:Int)+1:=qg (by omega) (by omega)
     rw[zj hlt,List.all_cons]at hI;by_cases d1:env[k].2<0
     .rw [decide_eq_false (show ¬ 0<=env[k].2 by omega)]at hI;replace hI:false=R:=hI;subst hI
      simp[go_sem,e3,e10,e11,hlt,d1];exact .hf _ (HF.sc _)
     rw[decide_eq_true (show 0<=env[k].2 by omega),Bool.true_and]at hI;by_cases d2:sumI m.sc.atoms<=env[k].2
     .rw [decide_eq_false (show ¬env[k].2<sumI m.sc.atoms by omega)]at hI;replace hI:false=R:=hI;subst hI
      simp[go_sem,e3,e10,e11,hlt,d1,d2];exact .hf _ (HF.sc _)
     rw[decide_eq_true (show env[k].2<sumI m.sc.atoms by omega),Bool.true_and]at hI;simp[go_sem,e3,e10,e11,hlt,d1,d2,w1];exact Keep.mk' ⟨by simp[go_sem,e3],by simp[go_sem,e10],by simp[go_sem],hI⟩
    .have hge:k=env.length:=by omega
     subst hge;rw[zL]at hI;replace hI:true=R:=hI;subst hI;simp[go_sem,e3,e10,e11];exact .hf _ (HF.sc _)
end FF
namespace FH
open YF P1 P2 Y1 Y9 Y14 YZ YG Q6 YH
theorem qjH(ts:TS)(h:okTS ts)(hwp:∀ p,p∈ts.preds->WfN p.body)(n:Nd)(hw:WfN n)(hcall:anyN (fun n=>decide (n.op=47)) n=false):qi qd 71 [eTS ts,eNd n] (.tup [eNd (ZM ts n).1,aI (ZM ts n).2]):=by
 generalize hR:ZM ts n=R;unfold ZM at hR;refine qSQ call71 func71 rfl { mt:=[25] } ?_;simp[go_sem];refine qb.pure (qgB ts h hwp n hw [] ⟨by simp,by simp⟩) (.cons (.hf (zl ts)) (.cons (WK.lst fun r hr=>absurd hr zr) (.cons (.hf (qI n)) .nil))) ?_;simp[go_sem];by_cases hc:(jO ts [] n).1=0
 case neg =>
  rw[if_pos hc]at hR;subst hR;simp[go_sem,hc];refine qe.move 2 1 (by kernel_rfl) (by kernel_rfl) ?_ ?_
  all_goals
   simp[go_sem,hc];exact qgZ _ _
 case pos =>
  rw[if_neg (by simpa using hc)]at hR;simp[go_sem,hc];have hin:∀(v:List Nd) (k:Nd) (mu:Mu),InM ts (putN [] v) (v.any fun n=>decide (n.op=47)) mu->qY qd 134 (eNd k :: [.ptr 4 0,.ptr 5 0]) mu fun e m=>e = .ret (.tup [])/\InM ts (putN [] (v++[k])) ((v++[k]).any fun n=>decide (n.op=47)) m:=fun v k mu hI=>by
   refine(qgV ts ⟨0,0⟩ 2 _ _ k hI.p hI.x hI.c hI.t).monoR ?_;rintro e m ⟨rfl,rfl⟩;refine⟨rfl,?_⟩;rw[List.any_append];simp only[putN,List.foldl_append,List.foldl_cons,List.foldl_nil,List.any_cons,List.any_nil,Bool.or_false];exact hI.setT.setC
  refine qb.eff0 (gh (caps:=[.ptr 4 0,.ptr 5 0]) (fun v mu=>InM ts (putN [] v) (v.any fun n=>decide (n.op=47)) mu) (fun v mu l h=>h.push l) hin (szN n) n (qr _) hw.small [] _ ⟨rfl,rfl,rfl,rfl,rfl⟩) ?_ (by rintro r m ⟨e,_⟩;cases e);rintro r m ⟨e,hI⟩;cases e;rw[yP,<-gq _ (szN n) n (qr _),hcall]at hI;have hml:=hI.len;have hset:∀ c,(m.set 0 c)[0]?=some c:=fun c=>zb (by omega)
  rw[if_pos hcall]at hR;subst hR;simp[go_sem,hI.c,hI.r,hset,qo];exact .hf _ (HF.tup fun c hc=>by simp at hc;rcases hc with rfl|rfl;exact qI n;exact HF.sc _)
end FH
namespace FG
open Y1 Y9 P1 YG Q6 YF E3 E4 E5 EA Q4 QB F2 FB FC FD FE
def hA:ByteArray:=⟨#[65]⟩
def hf:ByteArray:=⟨#[102]⟩
def hx:ByteArray:=⟨#[120]⟩
def hg:ByteArray:=⟨#[103]⟩
def hp:ByteArray:=⟨#[112]⟩
def hAf:ByteArray:=⟨#[65,95,102,105,114,115,116]⟩
def hAn:ByteArray:=⟨#[65,95,110,101,120,116]⟩
def nm(b:ByteArray):Nd := .mk 1 b 0 [] 0
def tsH:TS:=⟨[(hA,true)],[⟨hf,[0,0],true⟩],[],[]⟩
def mdH:Md:=⟨⟨[2],2⟩,[[⟨2,[1]⟩],[⟨2,[1,2]⟩]],1⟩
abbrev xH:Mo:=⟨tsH,mdH⟩
def zf:Nd:=nk 9 [nm hf,nm hf]
def Jb:Nd:=nk 38 [nk 21 [nk 13 [nm hf]],.mk 20 ⟨#[]⟩ 3 [] 0]
def Jc:Nd:=nb 45 hx (nm hA) (nk 37 [nk 9 [nm hx,nm hf]])
def Jd:Nd:=nb 15 hx (nm hA) (nk 35 [nk 9 [nm hx,nm hf]])
def eqH:Nd:=nk 33 [nm hf,nk 9 [nm hAf,nm hAn]]
def untH:Nd:=nk 51 [nk 35 [zf],nk 48 [nk 34 [zf]]]
def inH:Nd:=nk 32 [nm hf,nm hA]
def Xg:Nd := .mk 47 hp 0 [] 0
theorem v1:fmV ((den xH (nk 34 [zf])).F ⟨0,[]⟩)=(false,0):=by decide +kernel
theorem v2:fmV ((den xH Jb).F ⟨0,[]⟩)=(true,0):=by decide +kernel
theorem v3:fmV ((den xH Jc).F ⟨0,[]⟩)=(true,0):=by decide +kernel
theorem v4:(den xH Jd).E ⟨0,[]⟩ = .ok ⟨1,[1]⟩:=by rfl
theorem v5:(den xH (nk 21 [nk 5 [zf]])).N ⟨0,[]⟩ = .ok 2:=by rfl
theorem v6:fmV ((den xH eqH).F ⟨0,[(hf,1)]⟩)=(true,0):=by decide +kernel
theorem v7:fmV ((den xH untH).F ⟨0,[]⟩)=(true,0):=by decide +kernel
theorem v8:(den xH (nm hg)).E ⟨0,[]⟩ = .error 40:=by rfl
theorem v9:fmV ((den xH inH).F ⟨0,[]⟩)=(false,42):=by decide +kernel
theorem v10:fmV ((den xH Xg).F ⟨0,[]⟩)=(false,45):=by decide +kernel
theorem v11:(den xH (nm hf)).N ⟨0,[]⟩ = .error 43:=by rfl
theorem v12:fmV ((den xH (nk 34 [nm hf])).F ⟨0,[]⟩)=(true,0):=by decide +kernel
theorem nU:okTS tsH:=⟨by decide,by decide,by decide,by decide,fun x hx=>by
 have:x=(hA,true):=by simpa[tsH] using hx
 subst this;decide,fun f hf'=>by
 have:f=⟨hf,[0,0],true⟩:=by simpa[tsH] using hf'
 subst this;exact⟨by decide,by decide,fun x hx=>by simp at hx;subst hx;decide⟩,fun p hp=>by simp[tsH]at hp⟩
theorem okMH:OkMa xH 2:=by
 refine { len:=rfl,nx:=?_,n0:=by decide,n12:=by decide,st:=?_,at0:=?_,gsc:=⟨by decide,fun a ha=>?_⟩,pos:=fun a ha=>?_,al:=rfl,loop:=by decide,N1:=by decide,ts:=nU }
 .intro t ht
  match t,ht with
  | 0,_=>decide
  | 1,_=>decide
  |t+2,ht=>omega
 .intro s hs
  match s,hs with
  | 0,_=>exact⟨rfl,fun r hr=>by
    have:r=⟨2,[1]⟩:=by simpa[mdH] using hr
    subst this;exact WO (by decide +kernel)⟩
  | 1,_=>exact⟨rfl,fun r hr=>by
    have:r=⟨2,[1,2]⟩:=by simpa[mdH] using hr
    subst this;exact WO (by decide +kernel)⟩
  |s+2,hs=>omega
 .intro i hi
  match i,hi with
  | 0,_=>decide
  |i+1,hi=>exact absurd hi (by simp[tsH])
 .have:a=2:=by simpa[mdH] using ha
  subst this;decide
 .have:a=2:=by simpa[mdH] using ha
  subst this;decide
theorem okPH:OkP xH 2 ⟨0,[]⟩:=⟨by decide,fun e he=>by simp at he⟩
theorem nV:OkP xH 2 ⟨0,[(hf,1)]⟩:=⟨by decide,fun e he=>by
 have:e=(hf,1):=by simpa using he
 subst this;decide⟩
theorem wS:WK (.agg [.lst true [[aS hA,aB true]],.lst true [[aS hf,.lst true [[aI 0],[aI 0]],aB true]],.lst true [],.lst true []]) (eTS tsH):=
 WK.aggs ⟨yL ⟨⟨.hf (HF.sc _),.hf (HF.sc _),trivial⟩,trivial⟩,yL ⟨⟨.hf (HF.sc _),yL ⟨⟨.hf (HF.sc _),trivial⟩,⟨.hf (HF.sc _),trivial⟩,trivial⟩,.hf (HF.sc _),trivial⟩,trivial⟩,yL trivial,yL trivial,trivial⟩
theorem wM:WK (.agg [.lst true [[aI 2]],aI 2,.lst true [[.lst true [[aI 2,.lst true [[aI 1]]]]],[.lst true [[aI 2,.lst true [[aI 1],[aI 2]]]]]],aI 1]) (eMd mdH):=
 WK.aggs ⟨yL ⟨⟨.hf (HF.sc _),trivial⟩,trivial⟩,.hf (HF.sc _),yL ⟨⟨yL ⟨⟨.hf (HF.sc _),yL ⟨⟨.hf (HF.sc _),trivial⟩,trivial⟩,trivial⟩,trivial⟩,trivial⟩,⟨yL ⟨⟨.hf (HF.sc _),yL ⟨⟨.hf (HF.sc _),trivial⟩,⟨.hf (HF.sc _),trivial⟩,trivial⟩,trivial⟩,trivial⟩,trivial⟩,trivial⟩,.hf (HF.sc _),trivial⟩
theorem wE:WK (.lst true []) (lPm []):=WK.lst fun r hr=>absurd hr zr
theorem wEv(n:Nd){env:AV}{l:List (ByteArray×Int)}(h:WK env (lPm l)):WKs [.agg [.lst true [[aS hA,aB true]],.lst true [[aS hf,.lst true [[aI 0],[aI 0]],aB true]],.lst true [],.lst true []],.agg [.lst true [[aI 2]],aI 2,.lst true [[.lst true [[aI 2,.lst true [[aI 1]]]]],[.lst true [[aI 2,.lst true [[aI 1],[aI 2]]]]]],aI 1],aI (0:Nat),env,eNd n] [eTS xH.ts,eMd xH.m,aI (0:Nat),lPm l,eNd n] := .cons wS (.cons wM (.cons (.hf (HF.sc _)) (.cons h (.cons (.hf (qI _)) .nil))))
theorem wN(op:Int)(l:List Nd):WKs [aI op,.lst true (l.map cNd)] [aI op,lNd l] := .cons (.hf (HF.sc _)) (.cons (wkNd l) .nil)
theorem wB(op:Int)(nm:ByteArray)(d f:Nd):WKs [aI op,aS nm,eNd d,eNd f] [aI op,aS nm,eNd d,eNd f] := .cons (.hf (HF.sc _)) (.cons (.hf (HF.sc _)) (.cons (.hf (qI _)) (.cons (.hf (qI _)) .nil)))
theorem evH(n:Nd)(hv:zT n=true)(p:Pl)(hp:OkP xH 2 p)(hq:p.env.length<=10)(q:Bool×Int)(e:fmV ((den xH n).F p)=q):qi qd 18 [eTS xH.ts,eMd xH.m,aI p.st,lPm p.env,eNd n] (.tup [aB q.1,aI q.2]):=by
 have h:=Wx xH 2 n (vI hv) okMH p hp (by have:=we hv;show _+_<=_;omega);rw[Wy,e]at h;exact h
theorem wEv2{n:Nd}{nv env:AV}{l:List (ByteArray×Int)}(hn:WK nv (eNd n))(h:WK env (lPm l)):WKs [.agg [.lst true [[aS hA,aB true]],.lst true [[aS hf,.lst true [[aI 0],[aI 0]],aB true]],.lst true [],.lst true []],.agg [.lst true [[aI 2]],aI 2,.lst true [[.lst true [[aI 2,.lst true [[aI 1]]]]],[.lst true [[aI 2,.lst true [[aI 1],[aI 2]]]]]],aI 1],aI (0:Nat),env,nv] [eTS xH.ts,eMd xH.m,aI (0:Nat),lPm l,eNd n] := .cons wS (.cons wM (.cons (.hf (HF.sc _)) (.cons h (.cons hn .nil))))
theorem wEb:WK (.lst true [[aS hf,aI 1]]) (lPm [(hf,1)]):=yL ⟨⟨.hf (HF.sc _),.hf (HF.sc _),trivial⟩,trivial⟩
theorem exH(n:Nd)(hv:zT n=true)(p:Pl)(hp:OkP xH 2 p)(hq:p.env.length<=10)(q:XE Rl)(e:(den xH n).E p=q):qi qd 14 [eTS xH.ts,eMd xH.m,aI p.st,lPm p.env,eNd n] (outE q):=by
 have h:=pB xH 2 n (vI hv) okMH p hp (by have:=we hv;show _+_<=_;omega);rw[e]at h;exact h
theorem inHU(n:Nd)(hv:zT n=true)(p:Pl)(hp:OkP xH 2 p)(hq:p.env.length<=10)(q:XE Int)(e:(den xH n).N p=q):qi qd 16 [eTS xH.ts,eMd xH.m,aI p.st,lPm p.env,eNd n] (outN q):=by
 have h:=intP xH 2 n (vI hv) okMH p hp (by have:=we hv;show _+_<=_;omega);rw[e]at h;exact h
@[go_sem] theorem outE_ok(r:Rl):outE (.ok r) = .tup [eRel r,aI 0]:=rfl
@[go_sem] theorem outE_err(e:Int):outE (.error e) = .tup [eRel ⟨0,[]⟩,aI e]:=rfl
@[go_sem] theorem qjI(r:Int):outN (.ok r) = .tup [aI r,aI 0]:=rfl
@[go_sem] theorem outN_err(e:Int):outN (.error e) = .tup [aI 0,aI e]:=rfl
theorem v13:ZM tsH (nk 34 [nm hf])=(nk 34 [nm hf],0):=by
 have h:(jO tsH [] (nk 34 [nm hf])).1=0:=by decide +kernel
 have h2:anyN (fun n=>decide (n.op=47)) (nk 34 [nm hf])=false:=by decide +kernel
 unfold ZM;rw[if_neg (by simpa using h),if_pos h2]
theorem hoH:qi qd 23 [eTS xH.ts,eMd xH.m,eNd (nk 34 [nm hf])] (.tup [aB true,aI 0]):=by
 have hi:=FH.qjH tsH nU (fun p hp=>by simp[tsH]at hp) (nk 34 [nm hf]) (vI (by decide +kernel)) (by decide +kernel);rw[v13]at hi;have h:=qfY xH 2 okMH (by decide) (fun b=>(b,0)) (nk 34 [nm hf]) (by decide) fun b hb=>by
  have:b=nk 34 [nm hf]:=by simpa[tsH] using hb
  subst this;exact⟨hi,fun _=>⟨vI (by decide +kernel),by decide +kernel⟩⟩
 have e:uA (fun b=>(b,0)) xH (xH.ts.facts.map Prod.snd++[nk 34 [nm hf]]) true=(true,0):=by
  show uA (fun b=>(b,0)) xH [nk 34 [nm hf]] true=(true,0);simp only[uA,v12];rfl
 rw[e]at h;exact h
theorem wHo:WKs [.agg [.lst true [[aS hA,aB true]],.lst true [[aS hf,.lst true [[aI 0],[aI 0]],aB true]],.lst true [],.lst true []],.agg [.lst true [[aI 2]],aI 2,.lst true [[.lst true [[aI 2,.lst true [[aI 1]]]]],[.lst true [[aI 2,.lst true [[aI 1],[aI 2]]]]]],aI 1],eNd (nk 34 [nm hf])] [eTS xH.ts,eMd xH.m,eNd (nk 34 [nm hf])] := .cons wS (.cons wM (.cons (.hf (qI _)) .nil))
theorem eqHU:qi qd 20 [eRel ⟨1,[1]⟩,eRel ⟨1,[1]⟩] (aB true):=US ⟨1,[1]⟩ ⟨1,[1]⟩ (by decide)
theorem nW:qi qd 11 [] (aB true):=by
 refine qSQ call11 func11 rfl {} ?_;simp[go_sem]
 first|refine qb.pure (y9 hf) (.cons (.hf (HF.sc _)) .nil) ?_ | (refine qe.intro (by kernel_rfl) ?_;simp[go_sem];refine qb.pure (y9 hf) (.cons (.hf (HF.sc _)) .nil) ?_)
 simp[go_sem,qo]
 first|refine qb.pure (qA 9 [nm hf,nm hf]) (wN 9 [nm hf,nm hf]) ?_ | (refine qe.intro (by kernel_rfl) ?_;simp[go_sem];refine qb.pure (qA 9 [nm hf,nm hf]) (wN 9 [nm hf,nm hf]) ?_)
 simp[go_sem,qo]
 first|refine qb.pure (qA 13 [nm hf]) (wN 13 [nm hf]) ?_ | (refine qe.intro (by kernel_rfl) ?_;simp[go_sem];refine qb.pure (qA 13 [nm hf]) (wN 13 [nm hf]) ?_)
 simp[go_sem,qo]
 first|refine qb.pure (qA 21 [nk 13 [nm hf]]) (wN 21 [nk 13 [nm hf]]) ?_ | (refine qe.intro (by kernel_rfl) ?_;simp[go_sem];refine qb.pure (qA 21 [nk 13 [nm hf]]) (wN 21 [nk 13 [nm hf]]) ?_)
 simp[go_sem,qo]
 first|refine qb.pure (qA 38 [nk 21 [nk 13 [nm hf]],.mk 20 ⟨#[]⟩ 3 [] 0]) (.cons (.hf (HF.sc _)) (.cons (yL ⟨WV (vz (nk 21 [nk 13 [nm hf]])),WW 20 ⟨#[]⟩ 3 0 (yL trivial),trivial⟩) .nil)) ?_ | (refine qe.intro (by kernel_rfl) ?_;simp[go_sem];refine qb.pure (qA 38 [nk 21 [nk 13 [nm hf]],.mk 20 ⟨#[]⟩ 3 [] 0]) (.cons (.hf (HF.sc _)) (.cons (yL ⟨WV (vz (nk 21 [nk 13 [nm hf]])),WW 20 ⟨#[]⟩ 3 0 (yL trivial),trivial⟩) .nil)) ?_)
 simp[go_sem,qo]
 first|refine qb.pure (y9 hA) (.cons (.hf (HF.sc _)) .nil) ?_ | (refine qe.intro (by kernel_rfl) ?_;simp[go_sem];refine qb.pure (y9 hA) (.cons (.hf (HF.sc _)) .nil) ?_)
 simp[go_sem,qo]
 first|refine qb.pure (y9 hx) (.cons (.hf (HF.sc _)) .nil) ?_ | (refine qe.intro (by kernel_rfl) ?_;simp[go_sem];refine qb.pure (y9 hx) (.cons (.hf (HF.sc _)) .nil) ?_)
 simp[go_sem,qo]
 first|refine qb.pure (qA 9 [nm hx,nm hf]) (wN 9 [nm hx,nm hf]) ?_ | (refine qe.intro (by kernel_rfl) ?_;simp[go_sem];refine qb.pure (qA 9 [nm hx,nm hf]) (wN 9 [nm hx,nm hf]) ?_)
 simp[go_sem,qo]
 first|refine qb.pure (qA 37 [nk 9 [nm hx,nm hf]]) (wN 37 [nk 9 [nm hx,nm hf]]) ?_ | (refine qe.intro (by kernel_rfl) ?_;simp[go_sem];refine qb.pure (qA 37 [nk 9 [nm hx,nm hf]]) (wN 37 [nk 9 [nm hx,nm hf]]) ?_)
 simp[go_sem,qo]
 first|refine qb.pure (VD 45 hx (nm hA) (nk 37 [nk 9 [nm hx,nm hf]])) (wB 45 hx (nm hA) (nk 37 [nk 9 [nm hx,nm hf]])) ?_ | (refine qe.intro (by kernel_rfl) ?_;simp[go_sem];refine qb.pure (VD 45 hx (nm hA) (nk 37 [nk 9 [nm hx,nm hf]])) (wB 45 hx (nm hA) (nk 37 [nk 9 [nm hx,nm hf]])) ?_)
 simp[go_sem,qo]
 first|refine qb.pure (y9 hA) (.cons (.hf (HF.sc _)) .nil) ?_ | (refine qe.intro (by kernel_rfl) ?_;simp[go_sem];refine qb.pure (y9 hA) (.cons (.hf (HF.sc _)) .nil) ?_)
 simp[go_sem,qo]
 first|refine qb.pure (y9 hx) (.cons (.hf (HF.sc _)) .nil) ?_ | (refine qe.intro (by kernel_rfl) ?_;simp[go_sem];refine qb.pure (y9 hx) (.cons (.hf (HF.sc _)) .nil) ?_)
 simp[go_sem,qo]
 first|refine qb.pure (qA 9 [nm hx,nm hf]) (wN 9 [nm hx,nm hf]) ?_ | (refine qe.intro (by kernel_rfl) ?_;simp[go_sem];refine qb.pure (qA 9 [nm hx,nm hf]) (wN 9 [nm hx,nm hf]) ?_)
 simp[go_sem,qo]
 first|refine qb.pure (qA 35 [nk 9 [nm hx,nm hf]]) (wN 35 [nk 9 [nm hx,nm hf]]) ?_ | (refine qe.intro (by kernel_rfl) ?_;simp[go_sem];refine qb.pure (qA 35 [nk 9 [nm hx,nm hf]]) (wN 35 [nk 9 [nm hx,nm hf]]) ?_)
 simp[go_sem,qo]
 first|refine qb.pure (VD 15 hx (nm hA) (nk 35 [nk 9 [nm hx,nm hf]])) (wB 15 hx (nm hA) (nk 35 [nk 9 [nm hx,nm hf]])) ?_ | (refine qe.intro (by kernel_rfl) ?_;simp[go_sem];refine qb.pure (VD 15 hx (nm hA) (nk 35 [nk 9 [nm hx,nm hf]])) (wB 15 hx (nm hA) (nk 35 [nk 9 [nm hx,nm hf]])) ?_)
 simp[go_sem,qo]
 first|refine qb.pure (qA 34 [zf]) (wN 34 [zf]) ?_ | (refine qe.intro (by kernel_rfl) ?_;simp[go_sem];refine qb.pure (qA 34 [zf]) (wN 34 [zf]) ?_)
 simp[go_sem,qo]
 first|refine qb.pure (evH (nk 34 [zf]) (by decide +kernel) ⟨0,[]⟩ okPH (by decide) (false,0) v1) (wEv (nk 34 [zf]) wE) ?_ | (refine qe.intro (by kernel_rfl) ?_;simp[go_sem];refine qb.pure (evH (nk 34 [zf]) (by decide +kernel) ⟨0,[]⟩ okPH (by decide) (false,0) v1) (wEv (nk 34 [zf]) wE) ?_)
 simp[go_sem,qo]
 first|refine qb.pure (evH (Jb) (by decide +kernel) ⟨0,[]⟩ okPH (by decide) (true,0) v2) (wEv (Jb) wE) ?_ | (refine qe.intro (by kernel_rfl) ?_;simp[go_sem];refine qb.pure (evH (Jb) (by decide +kernel) ⟨0,[]⟩ okPH (by decide) (true,0) v2) (wEv (Jb) wE) ?_)
 simp[go_sem,qo]
 first|refine qb.pure (evH (Jc) (by decide +kernel) ⟨0,[]⟩ okPH (by decide) (true,0) v3) (wEv (Jc) wE) ?_ | (refine qe.intro (by kernel_rfl) ?_;simp[go_sem];refine qb.pure (evH (Jc) (by decide +kernel) ⟨0,[]⟩ okPH (by decide) (true,0) v3) (wEv (Jc) wE) ?_)
 simp[go_sem,qo]
 first|refine qb.pure (exH (Jd) (by decide +kernel) ⟨0,[]⟩ okPH (by decide) _ v4) (wEv Jd wE) ?_ | (refine qe.intro (by kernel_rfl) ?_;simp[go_sem];refine qb.pure (exH (Jd) (by decide +kernel) ⟨0,[]⟩ okPH (by decide) _ v4) (wEv Jd wE) ?_)
 simp[go_sem,qo]
 first|refine qb.pure (qA 5 [zf]) (wN 5 [zf]) ?_ | (refine qe.intro (by kernel_rfl) ?_;simp[go_sem];refine qb.pure (qA 5 [zf]) (wN 5 [zf]) ?_)
 simp[go_sem,qo]
 first|refine qb.pure (qA 21 [nk 5 [zf]]) (wN 21 [nk 5 [zf]]) ?_ | (refine qe.intro (by kernel_rfl) ?_;simp[go_sem];refine qb.pure (qA 21 [nk 5 [zf]]) (wN 21 [nk 5 [zf]]) ?_)
 simp[go_sem,qo]
 first|refine qb.pure (inHU (nk 21 [nk 5 [zf]]) (by decide +kernel) ⟨0,[]⟩ okPH (by decide) _ v5) (wEv (nk 21 [nk 5 [zf]]) wE) ?_ | (refine qe.intro (by kernel_rfl) ?_;simp[go_sem];refine qb.pure (inHU (nk 21 [nk 5 [zf]]) (by decide +kernel) ⟨0,[]⟩ okPH (by decide) _ v5) (wEv (nk 21 [nk 5 [zf]]) wE) ?_)
 simp[go_sem,qo]
 first|refine qb.pure (y9 hAf) (.cons (.hf (HF.sc _)) .nil) ?_ | (refine qe.intro (by kernel_rfl) ?_;simp[go_sem];refine qb.pure (y9 hAf) (.cons (.hf (HF.sc _)) .nil) ?_)
 simp[go_sem,qo]
 first|refine qb.pure (y9 hAn) (.cons (.hf (HF.sc _)) .nil) ?_ | (refine qe.intro (by kernel_rfl) ?_;simp[go_sem];refine qb.pure (y9 hAn) (.cons (.hf (HF.sc _)) .nil) ?_)
 simp[go_sem,qo]
 first|refine qb.pure (qA 9 [nm hAf,nm hAn]) (wN 9 [nm hAf,nm hAn]) ?_ | (refine qe.intro (by kernel_rfl) ?_;simp[go_sem];refine qb.pure (qA 9 [nm hAf,nm hAn]) (wN 9 [nm hAf,nm hAn]) ?_)
 simp[go_sem,qo]
 first|refine qb.pure (qA 33 [nm hf,nk 9 [nm hAf,nm hAn]]) (wN 33 [nm hf,nk 9 [nm hAf,nm hAn]]) ?_ | (refine qe.intro (by kernel_rfl) ?_;simp[go_sem];refine qb.pure (qA 33 [nm hf,nk 9 [nm hAf,nm hAn]]) (wN 33 [nm hf,nk 9 [nm hAf,nm hAn]]) ?_)
 simp[go_sem,qo]
 first|refine qb.pure (evH (eqH) (by decide +kernel) ⟨0,[(hf,1)]⟩ nV (by decide) (true,0) v6) (wEv (eqH) wEb) ?_ | (refine qe.intro (by kernel_rfl) ?_;simp[go_sem];refine qb.pure (evH (eqH) (by decide +kernel) ⟨0,[(hf,1)]⟩ nV (by decide) (true,0) v6) (wEv (eqH) wEb) ?_)
 simp[go_sem,qo]
 first|refine qb.pure (qA 35 [zf]) (wN 35 [zf]) ?_ | (refine qe.intro (by kernel_rfl) ?_;simp[go_sem];refine qb.pure (qA 35 [zf]) (wN 35 [zf]) ?_)
 simp[go_sem,qo]
 first|refine qb.pure (qA 34 [zf]) (wN 34 [zf]) ?_ | (refine qe.intro (by kernel_rfl) ?_;simp[go_sem];refine qb.pure (qA 34 [zf]) (wN 34 [zf]) ?_)
 simp[go_sem,qo]
 first|refine qb.pure (qA 48 [nk 34 [zf]]) (wN 48 [nk 34 [zf]]) ?_ | (refine qe.intro (by kernel_rfl) ?_;simp[go_sem];refine qb.pure (qA 48 [nk 34 [zf]]) (wN 48 [nk 34 [zf]]) ?_)
 simp[go_sem,qo]
 first|refine qb.pure (qA 51 [nk 35 [zf],nk 48 [nk 34 [zf]]]) (wN 51 [nk 35 [zf],nk 48 [nk 34 [zf]]]) ?_ | (refine qe.intro (by kernel_rfl) ?_;simp[go_sem];refine qb.pure (qA 51 [nk 35 [zf],nk 48 [nk 34 [zf]]]) (wN 51 [nk 35 [zf],nk 48 [nk 34 [zf]]]) ?_)
 simp[go_sem,qo]
 first|refine qb.pure (evH (untH) (by decide +kernel) ⟨0,[]⟩ okPH (by decide) (true,0) v7) (wEv (untH) wE) ?_ | (refine qe.intro (by kernel_rfl) ?_;simp[go_sem];refine qb.pure (evH (untH) (by decide +kernel) ⟨0,[]⟩ okPH (by decide) (true,0) v7) (wEv (untH) wE) ?_)
 simp[go_sem,qo]
 first|refine qb.pure (y9 hg) (.cons (.hf (HF.sc _)) .nil) ?_ | (refine qe.intro (by kernel_rfl) ?_;simp[go_sem];refine qb.pure (y9 hg) (.cons (.hf (HF.sc _)) .nil) ?_)
 simp[go_sem,qo]
 first|refine qb.pure (exH (nm hg) (by decide +kernel) ⟨0,[]⟩ okPH (by decide) _ v8) (wEv (nm hg) wE) ?_ | (refine qe.intro (by kernel_rfl) ?_;simp[go_sem];refine qb.pure (exH (nm hg) (by decide +kernel) ⟨0,[]⟩ okPH (by decide) _ v8) (wEv (nm hg) wE) ?_)
 simp[go_sem,qo]
 first|refine qb.pure (y9 hA) (.cons (.hf (HF.sc _)) .nil) ?_ | (refine qe.intro (by kernel_rfl) ?_;simp[go_sem];refine qb.pure (y9 hA) (.cons (.hf (HF.sc _)) .nil) ?_)
 simp[go_sem,qo]
 first|refine qb.pure (qA 32 [nm hf,nm hA]) (wN 32 [nm hf,nm hA]) ?_ | (refine qe.intro (by kernel_rfl) ?_;simp[go_sem];refine qb.pure (qA 32 [nm hf,nm hA]) (wN 32 [nm hf,nm hA]) ?_)
 simp[go_sem,qo]
 first|refine qb.pure (evH (inH) (by decide +kernel) ⟨0,[]⟩ okPH (by decide) (false,42) v9) (wEv (inH) wE) ?_ | (refine qe.intro (by kernel_rfl) ?_;simp[go_sem];refine qb.pure (evH (inH) (by decide +kernel) ⟨0,[]⟩ okPH (by decide) (false,42) v9) (wEv (inH) wE) ?_)
 simp[go_sem,qo]
 first|refine qb.pure (evH Xg (by decide +kernel) ⟨0,[]⟩ okPH (by decide) (false,45) v10) (wEv2 (gH 47 hp 0 0 (yL trivial)) wE) ?_ | (refine qe.intro (by kernel_rfl) ?_;simp[go_sem];refine qb.pure (evH Xg (by decide +kernel) ⟨0,[]⟩ okPH (by decide) (false,45) v10) (wEv2 (gH 47 hp 0 0 (yL trivial)) wE) ?_)
 simp[go_sem,qo]
 first|refine qb.pure (inHU (nm hf) (by decide +kernel) ⟨0,[]⟩ okPH (by decide) _ v11) (wEv (nm hf) wE) ?_ | (refine qe.intro (by kernel_rfl) ?_;simp[go_sem];refine qb.pure (inHU (nm hf) (by decide +kernel) ⟨0,[]⟩ okPH (by decide) _ v11) (wEv (nm hf) wE) ?_)
 simp[go_sem,qo]
 first|refine qb.pure (qA 34 [nm hf]) (wN 34 [nm hf]) ?_ | (refine qe.intro (by kernel_rfl) ?_;simp[go_sem];refine qb.pure (qA 34 [nm hf]) (wN 34 [nm hf]) ?_)
 simp[go_sem,qo]
 first|refine qb.pure (hoH) (wHo) ?_ | (refine qe.intro (by kernel_rfl) ?_;simp[go_sem];refine qb.pure (hoH) (wHo) ?_)
 simp[go_sem,qo]
 first|refine qb.pure (eqHU) (.cons (.hf (qM ⟨1,[1]⟩)) (.cons (WK.aggs ⟨.hf (HF.sc _),yL ⟨⟨.hf (HF.sc _),trivial⟩,trivial⟩,trivial⟩) .nil)) ?_ | (refine qe.intro (by kernel_rfl) ?_;simp[go_sem];refine qb.pure (eqHU) (.cons (.hf (qM ⟨1,[1]⟩)) (.cons (WK.aggs ⟨.hf (HF.sc _),yL ⟨⟨.hf (HF.sc _),trivial⟩,trivial⟩,trivial⟩) .nil)) ?_)
 simp[go_sem,qo];exact .hf _ (HF.sc _)
end FG
namespace FI
open Y1 Y16 P1 P2 YF E3 E9 EA Q4 Q8 QU F1 F2 FD FF FG
abbrev bigS(ts:TS):Prop:=∀ x,x∈ts.sorts->x.1.size<=4611686018427387904
theorem nX{ts:TS}(hs:bigS ts)(m:Md)(s:Int)(env:List (ByteArray×Int)):qi qd 12 [eTS ts,eMd m,aI s,lPm env] (aB (fitB ts m s env (wQ ts))):=qjG ts m s env (wQ ts) fun hf=>by
 obtain⟨ok,wp,wf⟩:=WN hf hs;simp only[yn,qx,qy]at hf;exact qjC ts ok wp wf (fun p hp=>by rw[VE];have:=we (hf.2.2.1 p hp).2;omega) (fun f hf'=>by rw[VE];have:=we (hf.2.2.2 f hf');omega)
structure FitP (ts:TS) (m:Md) (s:Nat) (env:List (ByteArray×Int)):Prop where
 ma:OkMa ⟨ts,m⟩ m.states.length
 p:OkP ⟨ts,m⟩ m.states.length ⟨s,env⟩
 el:env.length<=8
 st:m.states.length<=4
theorem nY{ts:TS}(hs:bigS ts){m:Md}{s:Int}{env:List (ByteArray×Int)}(h:fitB ts m s env (wQ ts)=true):∃ k:Nat,s=k/\FitP ts m k env:=by
 simp only[fitB,qx,decide_eq_true_eq,qy]at h;obtain⟨h1,h2,h3,h4,h5,h6,h7,h8⟩:=h;obtain⟨k,rfl⟩:=Int.eq_ofNat_of_zero_le h5;have hv:=Xf h3;have hsc:=hv.sc;simp only[jC,qx,decide_eq_true_eq,qy]at hsc;have:=hv.ns;refine⟨k,rfl,pY (WN h1 hs).1 hv,⟨by show k<m.states.length;omega,fun e he=>h8 e he⟩,h7,by omega⟩
theorem wf1{op:Int}{f:Nd}(hw:WfN f)(h:shp op 1=some [kd f.op])(h2:op≠2)(nm:ByteArray):WfN (.mk op nm 0 [f] 0) := .mk _ h (fun e=>absurd e h2) fun k hk=>by
 have:k=f:=by simpa[Nd.kids] using hk
 subst this;exact hw
theorem wf2{op:Int}{f g:Nd}(hw:WfN f)(hg:WfN g)(h:shp op 2=some [kd f.op,kd g.op])(h2:op≠2)(nm:ByteArray):WfN (.mk op nm 0 [f,g] 0) := .mk _ h (fun e=>absurd e h2) fun k hk=>by
 have:k=f\/k=g:=by simpa[Nd.kids] using hk
 rcases this with rfl|rfl
 .exact hw
 .exact hg
theorem dn1(op:Int)(nm:ByteArray)(f:Nd):dN (.mk op nm 0 [f] 0)=dN f+1:=by simp[dN,dNs]
theorem dn2(op:Int)(nm:ByteArray)(f g:Nd):dN (.mk op nm 0 [f,g] 0)=max (dN f) (dN g)+1:=by simp[dN,dNs]
theorem nZ{m:Md}{n:Nd}(h:smB m n=true):zT n=true:=by
 simp only[smB,wm,qx]at h;exact h.1.1
theorem wkS(m:Md)(n:Nd):WKs [eMd m,eNd n] [eMd m,eNd n] := .cons (.hf (yx m)) (.cons (.hf (qI n)) .nil)
theorem wk1(n:Nd):WKs [eNd n] [eNd n] := .cons (.hf (qI n)) .nil
end FI
namespace FJ
open Y1 Y9 E3
def NZ{α:Type}(q:XE α):Prop:=∀ e,q = .error e->e≠0
theorem zg{α:Type}(a:α):NZ (.ok a:XE α):=fun e h=>by cases h
theorem jD{α:Type}{e:Int}(h:e≠0):NZ (.error e:XE α):=fun e' h'=>by cases h';exact h
theorem za{α β:Type}{q:XE α}{g:α->XE β}(h:NZ q)(k:∀ a,NZ (g a)):NZ (bX q g):=by
 cases q with
 |error e=>exact jD (h e rfl)
 |ok a=>exact k a
theorem Je{α β:Type}{g:α->XE β}:∀{l:List α},(∀ a,a∈l->NZ (g a))->NZ (mapX g l)
 | [],_=>zg _
 |a :: l,h=>za (h a (by simp)) fun b=>za (Je fun y hy=>h y (by simp[hy])) fun r=>zg _
theorem n4{g h:Nat->XE Bool}(hg:∀ s,NZ (g s))(hh:∀ s,NZ (h s)):∀(l:List Nat) (d q:Bool),NZ (untX g h l d q)
 | [],d,q=>zg _
 |s :: l,d,q=>za (hg s) fun a=>za (hh s) fun b=>n4 hg hh l _ _
theorem ze{α:Type}{c:Prop} [Decidable c] {a b:XE α} (h1:NZ a) (h2:NZ b):NZ (if c then a else b):=by split<;>assumption
structure NZD (d:Den):Prop where
 E:∀ p,NZ (d.E p)
 N:∀ p,NZ (d.N p)
 F:∀ p,NZ (d.F p)
theorem qjJ(x:Mo)(p:Pl)(nm:ByteArray):NZ (vU x p nm):=by
 unfold vU;split
 .exact zg _
 .unfold Zy
  split
  .exact jD (by decide)
  .exact zg _
  .exact jD (by decide)
theorem ZW{ds:List Den}(hk:∀ j,NZD (kD ds j))(p:Pl):NZ (zy ds p):=za ((hk 0).E p) fun a=>za ((hk 1).E p) fun b=>ze (zg _) (jD (by decide))
theorem Xh{ds:List Den}(hk:∀ j,NZD (kD ds j))(p:Pl):NZ (binE ds p):=za ((hk 0).E p) fun a=>ze (zg _) (jD (by decide))
theorem Xi{ds:List Den}(hk:∀ j,NZD (kD ds j))(nm:ByteArray)(p:Pl):NZ (y6 ds nm p):=za ((hk 0).E p) fun a=>ze (Je fun y _=>za ((hk 1).F _) fun b=>zg _) (jD (by decide))
theorem op_nz(x:Mo)(op:Int)(nm:ByteArray)(i:Int)(ds:List Den)(hk:∀ j,NZD (kD ds j))(hd:∀ d,d∈ds->NZD d):NZD (opD x op nm i ds):=by
 refine⟨fun p=>?_,fun p=>?_,fun p=>?_⟩
 .show NZ (opE x op nm i ds p)
  unfold opE;refine ze (qjJ x p nm) ?_;refine ze (zg _) ?_;refine ze (zg _) ?_;refine ze (zg _) ?_;refine ze ((hk 0).E _) ?_;refine ze (za (ZW hk p) fun _=>zg _) ?_;refine ze (za (ZW hk p) fun _=>zg _) ?_;refine ze (za (ZW hk p) fun _=>zg _) ?_;refine ze (za ((hk 0).E p) fun _=>za ((hk 1).E p) fun _=>ze (zg _) (jD (by decide))) ?_;refine ze (za ((hk 0).E p) fun _=>za ((hk 1).E p) fun _=>ze (zg _) (jD (by decide))) ?_;refine ze (za (Xh hk p) fun _=>zg _) ?_;refine ze (za (Xh hk p) fun _=>zg _) ?_;refine ze (za (Xh hk p) fun _=>zg _) ?_;refine ze (za (ZW hk p) fun _=>zg _) ?_;refine ze (za (Xi hk nm p) fun _=>zg _) ?_;exact jD (by decide)
 .show NZ (opN op i ds p)
  unfold opN;refine ze (zg _) ?_;refine ze (za ((hk 0).E p) fun _=>zg _) ?_;refine ze (za ((hk 0).N p) fun _=>za ((hk 1).N p) fun _=>zg _) ?_;refine ze (za ((hk 0).N p) fun _=>za ((hk 1).N p) fun _=>zg _) ?_;exact jD (by decide)
 .show NZ (opF x op nm ds p)
  unfold opF;refine ze (zg _) ?_;refine ze (zg _) ?_;refine ze (za (ZW hk p) fun _=>zg _) ?_;refine ze (za (ZW hk p) fun _=>zg _) ?_;refine ze (za ((hk 0).E p) fun _=>zg _) ?_;refine ze (za ((hk 0).E p) fun _=>zg _) ?_;refine ze (za ((hk 0).E p) fun _=>zg _) ?_;refine ze (za ((hk 0).E p) fun _=>zg _) ?_;refine ze (za ((hk 0).N p) fun _=>za ((hk 1).N p) fun _=>zg _) ?_;refine ze (za ((hk 0).N p) fun _=>za ((hk 1).N p) fun _=>zg _) ?_;refine ze (za ((hk 0).F p) fun _=>zg _) ?_;refine ze (za ((hk 0).F p) fun _=>za ((hk 1).F p) fun _=>zg _) ?_;refine ze (za ((hk 0).F p) fun _=>za ((hk 1).F p) fun _=>zg _) ?_;refine ze (za ((hk 0).F p) fun _=>za ((hk 1).F p) fun _=>zg _) ?_;refine ze (za ((hk 0).F p) fun _=>za ((hk 1).F p) fun _=>zg _) ?_;refine ze (za (Xi hk nm p) fun _=>zg _) ?_;refine ze (za (Xi hk nm p) fun _=>zg _) ?_;refine ze (za (Je fun d hd'=>(hd d hd').E p) fun _=>jD (by decide)) ?_;refine ze (za (Je fun s _=>(hk 0).F _) fun _=>zg _) ?_;refine ze (za (Je fun s _=>(hk 0).F _) fun _=>zg _) ?_;refine ze ((hk 0).F _) ?_;refine ze (n4 (fun s=>(hk 0).F _) (fun s=>(hk 1).F _) _ _ _) ?_;exact jD (by decide)
theorem qjK:NZD noD:=⟨fun _=>jD (by decide),fun _=>jD (by decide),fun _=>jD (by decide)⟩
theorem Xj(x:Mo):∀(m:Nat) (n:Nd),szN n<=m->NZD (den x n)
 | 0,n,hm=>by obtain⟨op,nm,i,ks,p⟩:=n;simp[szN]at hm
 |m+1,n,hm=>by
  rw[Qm];have ih:∀ k,k∈n.kids->NZD (den x k):=fun k hk=>Xj x m k (by have:=yi hk;omega)
  refine op_nz x _ _ _ _ (fun j=>?_) fun d hd=>?_
  .unfold kD
   by_cases hj:j<n.kids.length
   .have:(n.kids.map (den x)).getD j noD=den x n.kids[j]:=by simp[List.getD,hj]
    rw[this];exact ih _ (qu hj)
   .have:(n.kids.map (den x)).getD j noD=noD:=by simp[List.getD,hj]
    rw[this];exact qjK
  .obtain ⟨k,hk,rfl⟩:=qs.1 hd
   exact ih k hk
end FJ
namespace FK
open Y1 P1 P2 YF E3 EA F2 FB FC FE FI E4
theorem eqS(r:Rl)(hl:r.ts.length<=4611686018427387904):qi qd 20 [eRel r,eRel r] (aB true):=by
 have h:=US r r hl;rw[decide_eq_true rfl]at h;exact h
theorem ja(r:Rl)(e:Int)(hl:r.ts.length<=4611686018427387904):qi qd 34 [eRel r,aI e,eRel r,aI e] (aB true):=by
 have hq:=eqS r hl;have wq:WKs [eRel r,eRel r] [eRel r,eRel r] := .cons (.hf (qM r)) (.cons (.hf (qM r)) .nil);refine qSQ call34 func34 rfl {} ?_;by_cases h:e=0
 .simp [go_sem,h]
  refine qb.pure hq wq ?_;simp[go_sem];exact .hf _ (HF.sc _)
 .simp [go_sem,h]
  exact .hf _ (HF.sc _)
def reV:XE Rl->Rl×Int
 | .ok r=>(r,0)
 | .error e=>(⟨0,[]⟩,e)
theorem qjL(q:XE Rl):outE q = .tup [eRel (reV q).1,aI (reV q).2]:=by cases q<;>rfl
structure OkG (F:Nat) (n:Nd):Prop where
 w:WfN n
 d:dN n<=F
theorem ub{ts:TS}{m:Md}{k:Nat}{env:List (ByteArray×Int)}(F:FitP ts m k env){a:Nd}(ha:OkG 100 a):qi qd 14 [eTS ts,eMd m,aI k,lPm env,eNd a] (.tup [eRel (reV ((den ⟨ts,m⟩ a).E ⟨k,env⟩)).1,aI (reV ((den ⟨ts,m⟩ a).E ⟨k,env⟩)).2]):=by
 have h:=pB ⟨ts,m⟩ _ a ha.w F.ma ⟨k,env⟩ F.p (by have:=ha.d;have:=F.el;show _+_<=_;simp only;omega);rw[qjL]at h;exact h
theorem wT{ts:TS}{m:Md}{k:Nat}{env:List (ByteArray×Int)}(F:FitP ts m k env){a:Nd}(ha:OkG 100 a):qi qd 18 [eTS ts,eMd m,aI k,lPm env,eNd a] (.tup [aB (fmV ((den ⟨ts,m⟩ a).F ⟨k,env⟩)).1,aI (fmV ((den ⟨ts,m⟩ a).F ⟨k,env⟩)).2]):=by
 have h:=Wx ⟨ts,m⟩ _ a ha.w F.ma ⟨k,env⟩ F.p (by have:=ha.d;have:=F.el;show _+_<=_;simp only;omega);rw[Wy]at h;exact h
theorem wo{ts:TS}{m:Md}{k:Nat}{env:List (ByteArray×Int)}(F:FitP ts m k env){a:Nd}(ha:WfN a):(reV ((den ⟨ts,m⟩ a).E ⟨k,env⟩)).1.ts.length<=8000:=by
 cases h:(den ⟨ts,m⟩ a).E ⟨k,env⟩ with
 |error e=>simp[reV]
 |ok r=>exact(Qs F.ma.toOkM _ a (qr _) ha _ r F.p h).len F.ma.n0 (by have:=F.ma.n12;omega)
theorem wkX(ts:TS)(m:Md)(k:Nat)(env:List (ByteArray×Int))(n:Nd):WKs [eTS ts,eMd m,aI k,lPm env,eNd n] [eTS ts,eMd m,aI k,lPm env,eNd n]:=wk5 ⟨ts,m⟩ ⟨k,env⟩ n
end FK
namespace E6
end E6
namespace FL
end FL
namespace FM
end FM
namespace FN
open Y1 Y16 P1 P2 YF E1 E2 E3 E5 E9 EA Q4 F1 F2 FB FC FD FE FF FG FI FJ FK EQ ER ET EY EZ F3 E4
section
variable (x:Mo) (p:Pl) (a b:Nd)
theorem E_uni:(den x (nk 6 [a,b])).E p=bX (zy [den x a,den x b] p) fun q => .ok (unR q.1 q.2):=by simp[den,dens,opD,opE]
theorem E_int:(den x (nk 7 [a,b])).E p=bX (zy [den x a,den x b] p) fun q => .ok (inR q.1 q.2):=by simp[den,dens,opD,opE]
theorem E_dif:(den x (nk 8 [a,b])).E p=bX (zy [den x a,den x b] p) fun q => .ok (diR q.1 q.2):=by simp[den,dens,opD,opE]
theorem E_ovr:(den x (nk 14 [a,b])).E p=bX (zy [den x a,den x b] p) fun q => .ok (ovR x.n q.1 q.2):=by simp[den,dens,opD,opE]
theorem E_joi:(den x (nk 9 [a,b])).E p=bX ((den x a).E p) fun r=>bX ((den x b).E p) fun s=>jf x.n r s:=by simp[den,dens,opD,opE,kD]
theorem E_pro:(den x (nk 10 [a,b])).E p=bX ((den x a).E p) fun r=>bX ((den x b).E p) fun s=>jz x.n r s:=by simp[den,dens,opD,opE,kD]
theorem E_tra:(den x (nk 11 [a])).E p=bX (binE [den x a] p) fun r => .ok (trR x.n r):=by simp[den,dens,opD,opE]
theorem E_clo:(den x (nk 12 [a])).E p=bX (binE [den x a] p) fun r => .ok (clR x.n 200 r):=by simp[den,dens,opD,opE]
theorem E_ref:(den x (nk 13 [a])).E p=bX (binE [den x a] p) fun r => .ok (unR (clR x.n 200 r) (idR x.n)):=by simp[den,dens,opD,opE]
theorem F_in:(den x (nk 32 [a,b])).F p=bX (zy [den x a,den x b] p) fun q => .ok (decide ((diR q.1 q.2).ts=[])):=by simp[den,dens,opD,opF]
theorem F_eq:(den x (nk 33 [a,b])).F p=bX (zy [den x a,den x b] p) fun q => .ok (decide (q.1=q.2)):=by simp[den,dens,opD,opF]
theorem F_one:(den x (nk 36 [a])).F p=bX ((den x a).E p) fun r => .ok (decide (r.ts.length=1)):=by simp[den,dens,opD,opF,kD]
theorem qjM:(den x (nk 37 [a])).F p=bX ((den x a).E p) fun r => .ok (decide (r.ts.length<=1)):=by simp[den,dens,opD,opF,kD]
theorem qjN:(den x (nk 21 [a])).N p=bX ((den x a).E p) fun r => .ok (r.ts.length:Int):=by simp[den,dens,opD,opN,kD]
theorem qjO{r s:Ev.Rl}(h1:(den x a).E p = .ok r)(h2:(den x b).E p = .ok s):zy [den x a,den x b] p=if r.ar=s.ar then .ok (r,s) else .error 42:=by
 simp[zy,kD,h1,h2,bX]
theorem Xk{r:Ev.Rl}(h1:(den x a).E p = .ok r):binE [den x a] p=if r.ar=2 then .ok r else .error 42:=by
 simp[binE,kD,h1,bX]
end
theorem n6{op:Int}{f g:Nd}(hw:WfN f)(hg:WfN g)(h:shp op 2=some [101,101])(kf:kd f.op=101)(kg:kd g.op=101)(h2:op≠2):WfN (nk op [f,g]):=wf2 hw hg (by rw[kf,kg];exact h) h2 _
theorem wf_k{op:Int}{f:Nd}(hw:WfN f)(h:shp op 1=some [101])(kf:kd f.op=101)(h2:op≠2):WfN (nk op [f]):=wf1 hw (by rw[kf];exact h) h2 _
theorem wA(r:Ev.Rl)(e:Int):WKs [eRel r,aI e,eRel r,aI e] [eRel r,aI e,eRel r,aI e] := .cons (.hf (qM _)) (.cons (.hf (HF.sc _)) (.cons (.hf (qM _)) (.cons (.hf (HF.sc _)) .nil)))
theorem wA2(n:Int)(r s:Ev.Rl):WKs [aI n,eRel r,eRel s] [aI n,eRel r,eRel s] := .cons (.hf (HF.sc _)) (.cons (.hf (qM _)) (.cons (.hf (qM _)) .nil))
theorem qjP{ts:TS}{m:Md}{k:Nat}{env:List (ByteArray×Int)}(F:FitP ts m k env){a b:Nd}(ga:OkG 24 a)(gb:OkG 24 b)(ka:kd a.op=101)(kb:kd b.op=101){r s:Ev.Rl}(h1:(den ⟨ts,m⟩ a).E ⟨k,env⟩ = .ok r)(h2:(den ⟨ts,m⟩ b).E ⟨k,env⟩ = .ok s) :
  qi qd 39 [eTS ts,eMd m,aI k,lPm env,eNd a,eNd b,eRel r,eRel s,aI (sumI m.sc.atoms)] (aB true):=by
 have h0:=F.ma.n0;have h12:=F.ma.n12;have gr:=Qs F.ma.toOkM _ a (qr _) ga.w _ r F.p h1;have gs:=Qs F.ma.toOkM _ b (qr _) gb.w _ s F.p h2;have lr:=gr.len h0 (by omega);have ls:=gs.len h0 (by omega);have hp:=qjO ⟨ts,m⟩ ⟨k,env⟩ a b h1 h2;have dk:∀ op,dN (nk op [a,b])<=100:=fun op=>by rw[dn2];have:=ga.d;have:=gb.d;omega
 have D:=fun (op:Int) (hs:shp op 2=some [101,101]) (hne:op≠2)=>(⟨n6 ga.w gb.w hs ka kb hne,dk op⟩:OkG 100 (nk op [a,b]))
 have e6:=ub F (D 6 (by decide) (by decide));have e7:=ub F (D 7 (by decide) (by decide));have e8:=ub F (D 8 (by decide) (by decide));have e14:=ub F (D 14 (by decide) (by decide));have e32:=wT F (D 32 (by decide) (by decide));have e33:=wT F (D 33 (by decide) (by decide));have l6:=wo F (D 6 (by decide) (by decide)).w;have l7:=wo F (D 7 (by decide) (by decide)).w;have l8:=wo F (D 8 (by decide) (by decide)).w;have l14:=wo F (D 14 (by decide) (by decide)).w;rw[E_uni,hp]at e6 l6;rw[E_int,hp]at e7 l7;rw[E_dif,hp]at e8 l8;rw[E_ovr,hp]at e14 l14;rw[F_in,hp]at e32;rw[F_eq,hp]at e33;have W:∀ op,WKs [eTS ts,eMd m,aI k,lPm env,eNd (nk op [a,b])] [eTS ts,eMd m,aI k,lPm env,eNd (nk op [a,b])]:=fun op=>wkX ts m k env _
 by_cases he:r.ar=s.ar
 .rw [if_pos he]at e6 e7 e8 e14 e32 e33 l6 l7 l8 l14
  simp only[qO,reV,fmV]at e6 e7 e8 e14 e32 e33 l6 l7 l8 l14;have hd:(r.ar=s.ar)=True:=eq_true he;refine qSQ call39 func39 rfl {} ?_;simp[go_sem]
  first|refine qb.pure (qA 6 [a,b]) (wN 6 [a,b]) ?_ | (refine qe.intro (by kernel_rfl) ?_;simp[go_sem];refine qb.pure (qA 6 [a,b]) (wN 6 [a,b]) ?_)
  simp[go_sem]
  first|refine qb.pure (e6) (W 6) ?_ | (refine qe.intro (by kernel_rfl) ?_;simp[go_sem];refine qb.pure (e6) (W 6) ?_)
  simp[go_sem]
  first|refine qb.pure (qA 7 [a,b]) (wN 7 [a,b]) ?_ | (refine qe.intro (by kernel_rfl) ?_;simp[go_sem];refine qb.pure (qA 7 [a,b]) (wN 7 [a,b]) ?_)
  simp[go_sem]
  first|refine qb.pure (e7) (W 7) ?_ | (refine qe.intro (by kernel_rfl) ?_;simp[go_sem];refine qb.pure (e7) (W 7) ?_)
  simp[go_sem]
  first|refine qb.pure (qA 8 [a,b]) (wN 8 [a,b]) ?_ | (refine qe.intro (by kernel_rfl) ?_;simp[go_sem];refine qb.pure (qA 8 [a,b]) (wN 8 [a,b]) ?_)
  simp[go_sem]
  first|refine qb.pure (e8) (W 8) ?_ | (refine qe.intro (by kernel_rfl) ?_;simp[go_sem];refine qb.pure (e8) (W 8) ?_)
  simp[go_sem]
  first|refine qb.pure (qA 14 [a,b]) (wN 14 [a,b]) ?_ | (refine qe.intro (by kernel_rfl) ?_;simp[go_sem];refine qb.pure (qA 14 [a,b]) (wN 14 [a,b]) ?_)
  simp[go_sem]
  first|refine qb.pure (e14) (W 14) ?_ | (refine qe.intro (by kernel_rfl) ?_;simp[go_sem];refine qb.pure (e14) (W 14) ?_)
  simp[go_sem]
  first|refine qb.pure (qA 32 [a,b]) (wN 32 [a,b]) ?_ | (refine qe.intro (by kernel_rfl) ?_;simp[go_sem];refine qb.pure (qA 32 [a,b]) (wN 32 [a,b]) ?_)
  simp[go_sem]
  first|refine qb.pure (e32) (W 32) ?_ | (refine qe.intro (by kernel_rfl) ?_;simp[go_sem];refine qb.pure (e32) (W 32) ?_)
  simp[go_sem]
  first|refine qb.pure (qA 33 [a,b]) (wN 33 [a,b]) ?_ | (refine qe.intro (by kernel_rfl) ?_;simp[go_sem];refine qb.pure (qA 33 [a,b]) (wN 33 [a,b]) ?_)
  simp[go_sem]
  first|refine qb.pure (e33) (W 33) ?_ | (refine qe.intro (by kernel_rfl) ?_;simp[go_sem];refine qb.pure (e33) (W 33) ?_)
  simp[go_sem,hd]
  first|refine qb.pure (y7 r s (by omega) (by omega)) (wkR2 r s) ?_ | (refine qe.intro (by kernel_rfl) ?_;simp[go_sem];refine qb.pure (y7 r s (by omega) (by omega)) (wkR2 r s) ?_)
  simp[go_sem]
  first|refine qb.pure (ja (unR r s) 0 (q7 l6 (by decide))) (wA (unR r s) 0) ?_ | (refine qe.intro (by kernel_rfl) ?_;simp[go_sem];refine qb.pure (ja (unR r s) 0 (q7 l6 (by decide))) (wA (unR r s) 0) ?_)
  simp[go_sem]
  first|refine qb.pure (Zz r s (by omega) (by omega)) (wkR2 r s) ?_ | (refine qe.intro (by kernel_rfl) ?_;simp[go_sem];refine qb.pure (Zz r s (by omega) (by omega)) (wkR2 r s) ?_)
  simp[go_sem]
  first|refine qb.pure (ja (inR r s) 0 (q7 l7 (by decide))) (wA (inR r s) 0) ?_ | (refine qe.intro (by kernel_rfl) ?_;simp[go_sem];refine qb.pure (ja (inR r s) 0 (q7 l7 (by decide))) (wA (inR r s) 0) ?_)
  simp[go_sem]
  first|refine qb.pure (Vd r s (by omega) (by omega)) (wkR2 r s) ?_ | (refine qe.intro (by kernel_rfl) ?_;simp[go_sem];refine qb.pure (Vd r s (by omega) (by omega)) (wkR2 r s) ?_)
  simp[go_sem]
  first|refine qb.pure (ja (diR r s) 0 (q7 l8 (by decide))) (wA (diR r s) 0) ?_ | (refine qe.intro (by kernel_rfl) ?_;simp[go_sem];refine qb.pure (ja (diR r s) 0 (q7 l8 (by decide))) (wA (diR r s) 0) ?_)
  simp[go_sem]
  first|refine qb.pure (U9 (sumI m.sc.atoms) h0 h12 r s gr gs he) (wA2 _ r s) ?_ | (refine qe.intro (by kernel_rfl) ?_;simp[go_sem];refine qb.pure (U9 (sumI m.sc.atoms) h0 h12 r s gr gs he) (wA2 _ r s) ?_)
  simp[go_sem]
  first|refine qb.pure (ja (ovR (sumI m.sc.atoms) r s) 0 (q7 l14 (by decide))) (wA (ovR (sumI m.sc.atoms) r s) 0) ?_ | (refine qe.intro (by kernel_rfl) ?_;simp[go_sem];refine qb.pure (ja (ovR (sumI m.sc.atoms) r s) 0 (q7 l14 (by decide))) (wA (ovR (sumI m.sc.atoms) r s) 0) ?_)
  simp[go_sem]
  first|refine qb.pure (inU r s (by omega) (by omega)) (wkR2 r s) ?_ | (refine qe.intro (by kernel_rfl) ?_;simp[go_sem];refine qb.pure (inU r s (by omega) (by omega)) (wkR2 r s) ?_)
  simp[go_sem]
  first|refine qb.pure (E4.J7 r s (by omega)) (wkR2 r s) ?_ | (refine qe.intro (by kernel_rfl) ?_;simp[go_sem];refine qb.pure (E4.J7 r s (by omega)) (wkR2 r s) ?_)
  simp[go_sem];exact .hf _ (HF.sc _)
 .rw [if_neg he]at e6 e7 e8 e14 e32 e33 l6 l7 l8 l14
  simp only[q9,reV,fmV]at e6 e7 e8 e14 e32 e33 l6 l7 l8 l14;refine qSQ call39 func39 rfl {} ?_;simp[go_sem]
  first|refine qb.pure (qA 6 [a,b]) (wN 6 [a,b]) ?_ | (refine qe.intro (by kernel_rfl) ?_;simp[go_sem];refine qb.pure (qA 6 [a,b]) (wN 6 [a,b]) ?_)
  simp[go_sem]
  first|refine qb.pure (e6) (W 6) ?_ | (refine qe.intro (by kernel_rfl) ?_;simp[go_sem];refine qb.pure (e6) (W 6) ?_)
  simp[go_sem]
  first|refine qb.pure (qA 7 [a,b]) (wN 7 [a,b]) ?_ | (refine qe.intro (by kernel_rfl) ?_;simp[go_sem];refine qb.pure (qA 7 [a,b]) (wN 7 [a,b]) ?_)
  simp[go_sem]
  first|refine qb.pure (e7) (W 7) ?_ | (refine qe.intro (by kernel_rfl) ?_;simp[go_sem];refine qb.pure (e7) (W 7) ?_)
  simp[go_sem]
  first|refine qb.pure (qA 8 [a,b]) (wN 8 [a,b]) ?_ | (refine qe.intro (by kernel_rfl) ?_;simp[go_sem];refine qb.pure (qA 8 [a,b]) (wN 8 [a,b]) ?_)
  simp[go_sem]
  first|refine qb.pure (e8) (W 8) ?_ | (refine qe.intro (by kernel_rfl) ?_;simp[go_sem];refine qb.pure (e8) (W 8) ?_)
  simp[go_sem]
  first|refine qb.pure (qA 14 [a,b]) (wN 14 [a,b]) ?_ | (refine qe.intro (by kernel_rfl) ?_;simp[go_sem];refine qb.pure (qA 14 [a,b]) (wN 14 [a,b]) ?_)
  simp[go_sem]
  first|refine qb.pure (e14) (W 14) ?_ | (refine qe.intro (by kernel_rfl) ?_;simp[go_sem];refine qb.pure (e14) (W 14) ?_)
  simp[go_sem]
  first|refine qb.pure (qA 32 [a,b]) (wN 32 [a,b]) ?_ | (refine qe.intro (by kernel_rfl) ?_;simp[go_sem];refine qb.pure (qA 32 [a,b]) (wN 32 [a,b]) ?_)
  simp[go_sem]
  first|refine qb.pure (e32) (W 32) ?_ | (refine qe.intro (by kernel_rfl) ?_;simp[go_sem];refine qb.pure (e32) (W 32) ?_)
  simp[go_sem]
  first|refine qb.pure (qA 33 [a,b]) (wN 33 [a,b]) ?_ | (refine qe.intro (by kernel_rfl) ?_;simp[go_sem];refine qb.pure (qA 33 [a,b]) (wN 33 [a,b]) ?_)
  simp[go_sem]
  first|refine qb.pure (e33) (W 33) ?_ | (refine qe.intro (by kernel_rfl) ?_;simp[go_sem];refine qb.pure (e33) (W 33) ?_)
  simp[go_sem,he];exact .hf _ (HF.sc _)
theorem w2(n:Int)(r:Ev.Rl):WKs [aI n,eRel r] [aI n,eRel r] := .cons (.hf (HF.sc _)) (.cons (.hf (qM _)) .nil)
theorem n7{n:Int}(h0:0<=n)(h12:n<=12):(idR n).ts.length<=12:=by
 simp[idR];omega
theorem wP(ts:TS)(m:Md)(k:Nat)(env:List (ByteArray×Int))(a b:Nd)(r t:Ev.Rl):WKs [eTS ts,eMd m,aI k,lPm env,eNd a,eNd b,eRel r,eRel t,aI (sumI m.sc.atoms)] [eTS ts,eMd m,aI k,lPm env,eNd a,eNd b,eRel r,eRel t,aI (sumI m.sc.atoms)]:=
 .cons (.hf (zl _)) (.cons (.hf (yx _)) (.cons (.hf (HF.sc _)) (.cons (.hf (yH _)) (.cons (.hf (qI _)) (.cons (.hf (qI _)) (.cons (.hf (qM _)) (.cons (.hf (qM _)) (.cons (.hf (HF.sc _)) .nil))))))))
theorem n8{n:Int}{r:Ev.Rl}(h0:0<=n)(h12:n<=12)(g:GR n r):yW n r=true:=by
 simp only[yW,qx,decide_eq_true_eq,qy];exact⟨⟨⟨⟨⟨h0,h12⟩,g.ar1⟩,g.ar3⟩,g.val⟩,g.srt⟩
theorem qjQ{ts:TS}{m:Md}{k:Nat}{env:List (ByteArray×Int)}(F:FitP ts m k env){a:Nd}(ha:OkG 100 a):qi qd 16 [eTS ts,eMd m,aI k,lPm env,eNd a] (outN ((den ⟨ts,m⟩ a).N ⟨k,env⟩)):=
 intP ⟨ts,m⟩ _ a ha.w F.ma ⟨k,env⟩ F.p (by have:=ha.d;have:=F.el;show _+_<=_;simp only;omega)
set_option maxHeartbeats 4000000 in
theorem qjR(ts:TS)(hs:bigS ts)(m:Md)(s:Int)(env:List (ByteArray×Int))(a b:Nd):qi qd 5 [eTS ts,eMd m,aI s,lPm env,eNd a,eNd b] (aB true):=by
 have hfit:=nX hs m s env;refine qSQ call5 func5 rfl {} ?_;simp[go_sem];refine qb.pure nW .nil ?_;simp[go_sem]
 first|refine qb.pure hfit (.cons (.hf (zl ts)) (.cons (.hf (yx m)) (.cons (.hf (HF.sc _)) (.cons (.hf (yH env)) .nil)))) ?_ | (refine qe.intro (by kernel_rfl) ?_;simp[go_sem];refine qb.pure hfit (.cons (.hf (zl ts)) (.cons (.hf (yx m)) (.cons (.hf (HF.sc _)) (.cons (.hf (yH env)) .nil)))) ?_)
 cases hF:fitB ts m s env (wQ ts) with
 |false =>
  simp[go_sem];exact .hf _ (HF.sc _)
 |true =>
  obtain⟨k,rfl,F⟩:=nY hs hF;have hsm:=fun n=>qjF m F.ma.gsc (by have:=F.st;omega) n
  simp[go_sem];refine qb.pure (hsm a) (wkS m a) ?_;by_cases c1:smB m a=true
  case neg =>
   rw[Bool.eq_false_iff.2 c1];simp[go_sem];exact .hf _ (HF.sc _)
  rw[c1];simp[go_sem];refine qb.pure (hsm b) (wkS m b) ?_;by_cases c2:smB m b=true
  case neg =>
   rw[Bool.eq_false_iff.2 c2];simp[go_sem];exact .hf _ (HF.sc _)
  rw[c2];simp[go_sem];refine qb.pure (nL a) (wk1 a) ?_;by_cases c3:kd a.op=101
  case neg =>
   rw[decide_eq_false c3];simp[go_sem];exact .hf _ (HF.sc _)
  rw[decide_eq_true c3];simp[go_sem];refine qb.pure (nL b) (wk1 b) ?_;by_cases c4:kd b.op=101
  case neg =>
   rw[decide_eq_false c4];simp[go_sem];exact .hf _ (HF.sc _)
  rw[decide_eq_true c4];simp[go_sem];have va:=nZ c1;have vb:=nZ c2;have ga:OkG 24 a:=⟨vI va,we va⟩;have gb:OkG 24 b:=⟨vI vb,we vb⟩;have ea:=ub F (⟨ga.w,by have:=ga.d;omega⟩:OkG 100 a);have eb:=ub F (⟨gb.w,by have:=gb.d;omega⟩:OkG 100 b)
  first|refine qb.pure (ea) (wkX ts m k env a) ?_ | (refine qe.intro (by kernel_rfl) ?_;simp[go_sem];refine qb.pure (ea) (wkX ts m k env a) ?_)
  simp[go_sem]
  first|refine qb.pure (eb) (wkX ts m k env b) ?_ | (refine qe.intro (by kernel_rfl) ?_;simp[go_sem];refine qb.pure (eb) (wkX ts m k env b) ?_)
  cases hA:(den ⟨ts,m⟩ a).E ⟨k,env⟩ with
  |error e =>
   have he:¬e=0:=(Xj ⟨ts,m⟩ _ a (qr _)).E _ e hA;simp[go_sem,reV,he];exact .hf _ (HF.sc _)
  |ok r =>
  cases hB:(den ⟨ts,m⟩ b).E ⟨k,env⟩ with
  |error e =>
   have he:¬e=0:=(Xj ⟨ts,m⟩ _ b (qr _)).E _ e hB;simp[go_sem,reV,he];exact .hf _ (HF.sc _)
  |ok t =>
  have h0:0<=sumI m.sc.atoms:=F.ma.n0;have h12:sumI m.sc.atoms<=12:=F.ma.n12;have gr:GR (sumI m.sc.atoms) r:=Qs F.ma.toOkM _ a (qr _) ga.w _ r F.p hA;have gt:GR (sumI m.sc.atoms) t:=Qs F.ma.toOkM _ b (qr _) gb.w _ t F.p hB;have lr:=gr.len h0 (by omega);have lt:=gt.len h0 (by omega);have dk:∀ op,dN (nk op [a,b])<=100:=fun op=>by rw[dn2];have:=ga.d;have:=gb.d;omega
  have dk1:∀ op,dN (nk op [a])<=100:=fun op=>by rw[dn1];have:=ga.d;omega
  have D:=fun (op:Int) (hs:shp op 2=some [101,101]) (hne:op≠2)=>(⟨n6 ga.w gb.w hs c3 c4 hne,dk op⟩:OkG 100 (nk op [a,b]))
  have D1:=fun (op:Int) (hs:shp op 1=some [101]) (hne:op≠2)=>(⟨wf_k ga.w hs c3 hne,dk1 op⟩:OkG 100 (nk op [a]))
  have e9:=ub F (D 9 (by decide) (by decide));have e10:=ub F (D 10 (by decide) (by decide));have e21:=qjQ F (D1 21 (by decide) (by decide));have e36:=wT F (D1 36 (by decide) (by decide));have e37:=wT F (D1 37 (by decide) (by decide));have e11:=ub F (D1 11 (by decide) (by decide));have e12:=ub F (D1 12 (by decide) (by decide));have e13:=ub F (D1 13 (by decide) (by decide));have l9:=wo F (D 9 (by decide) (by decide)).w;have l10:=wo F (D 10 (by decide) (by decide)).w;have l11:=wo F (D1 11 (by decide) (by decide)).w;have l12:=wo F (D1 12 (by decide) (by decide)).w;have l13:=wo F (D1 13 (by decide) (by decide)).w;rw[E_joi,hA,hB,qO,qO]at e9 l9;rw[E_pro,hA,hB,qO,qO]at e10 l10;rw[qjN,hA,qO]at e21;rw[F_one,hA,qO]at e36;rw[qjM,hA,qO]at e37;rw[E_tra,Xk _ _ a hA]at e11 l11;rw[E_clo,Xk _ _ a hA]at e12 l12;rw[E_ref,Xk _ _ a hA]at e13 l13;have hj:qi qd 32 [aI (sumI m.sc.atoms),eRel r,eRel t] (.tup [eRel (reV (jf (sumI m.sc.atoms) r t)).1,aI (reV (jf (sumI m.sc.atoms) r t)).2]):=by
   have h:=vT (sumI m.sc.atoms) h0 h12 r t gr gt (GR.lens h0 h12 gr gt);cases hq:jf (sumI m.sc.atoms) r t<;>rw[hq]at h<;>exact h
  have hpr:qi qd 33 [aI (sumI m.sc.atoms),eRel r,eRel t] (.tup [eRel (reV (jz (sumI m.sc.atoms) r t)).1,aI (reV (jz (sumI m.sc.atoms) r t)).2]):=by
   have h:=JV (sumI m.sc.atoms) h0 h12 r t gr gt;cases hq:jz (sumI m.sc.atoms) r t<;>rw[hq]at h<;>exact h
  have hv1:=UQ (sumI m.sc.atoms) r (by omega);have hv2:=UQ (sumI m.sc.atoms) t (by omega);rw[n8 h0 h12 gr]at hv1;rw[n8 h0 h12 gt]at hv2;have hpp:=qjP F ga gb c3 c4 hA hB;have W:∀ op,WKs [eTS ts,eMd m,aI k,lPm env,eNd (nk op [a,b])] [eTS ts,eMd m,aI k,lPm env,eNd (nk op [a,b])]:=fun op=>wkX ts m k env _
  have W1:∀ op,WKs [eTS ts,eMd m,aI k,lPm env,eNd (nk op [a])] [eTS ts,eMd m,aI k,lPm env,eNd (nk op [a])]:=fun op=>wkX ts m k env _
  have wv:∀ q:Ev.Rl,WKs [aI (sumI m.sc.atoms),eRel q] [aI (sumI m.sc.atoms),eRel q]:=fun q => .cons (.hf (HF.sc _)) (.cons (.hf (qM _)) .nil)
  have hj':jf (⟨ts,m⟩:Mo).n r t=jf (sumI m.sc.atoms) r t:=rfl;have hp':jz (⟨ts,m⟩:Mo).n r t=jz (sumI m.sc.atoms) r t:=rfl;rw[hj']at e9 l9;rw[hp']at e10 l10;generalize reV (jf (sumI m.sc.atoms) r t)=J at *
  generalize reV (jz (sumI m.sc.atoms) r t)=Q at *
  simp only[qjI,fmV]at e21 e36 e37;rw[show decide (r.ts.length=1)=decide ((r.ts.length:Int)=1) from by by_cases h:r.ts.length=1<;>simp[h]<;>omega]at e36;rw[show decide (r.ts.length<=1)=decide ((r.ts.length:Int)<=1) from by by_cases h:r.ts.length<=1<;>simp[h]<;>omega]at e37;simp[go_sem,reV]
  first|refine qb.pure (Qv m.sc F.ma.gsc) (.cons (.hf (yZ m.sc)) .nil) ?_ | (refine qe.intro (by kernel_rfl) ?_;simp[go_sem];refine qb.pure (Qv m.sc F.ma.gsc) (.cons (.hf (yZ m.sc)) .nil) ?_)
  simp[go_sem]
  first|refine qb.pure (hv1) (wv r) ?_ | (refine qe.intro (by kernel_rfl) ?_;simp[go_sem];refine qb.pure (hv1) (wv r) ?_)
  simp[go_sem]
  first|refine qb.pure (hv2) (wv t) ?_ | (refine qe.intro (by kernel_rfl) ?_;simp[go_sem];refine qb.pure (hv2) (wv t) ?_)
  simp[go_sem]
  first|refine qb.pure (qA 9 [a,b]) (wN 9 [a,b]) ?_ | (refine qe.intro (by kernel_rfl) ?_;simp[go_sem];refine qb.pure (qA 9 [a,b]) (wN 9 [a,b]) ?_)
  simp[go_sem]
  first|refine qb.pure (e9) (W 9) ?_ | (refine qe.intro (by kernel_rfl) ?_;simp[go_sem];refine qb.pure (e9) (W 9) ?_)
  simp[go_sem]
  first|refine qb.pure (hj) (wA2 _ r t) ?_ | (refine qe.intro (by kernel_rfl) ?_;simp[go_sem];refine qb.pure (hj) (wA2 _ r t) ?_)
  simp[go_sem]
  first|refine qb.pure (qA 10 [a,b]) (wN 10 [a,b]) ?_ | (refine qe.intro (by kernel_rfl) ?_;simp[go_sem];refine qb.pure (qA 10 [a,b]) (wN 10 [a,b]) ?_)
  simp[go_sem]
  first|refine qb.pure (e10) (W 10) ?_ | (refine qe.intro (by kernel_rfl) ?_;simp[go_sem];refine qb.pure (e10) (W 10) ?_)
  simp[go_sem]
  first|refine qb.pure (hpr) (wA2 _ r t) ?_ | (refine qe.intro (by kernel_rfl) ?_;simp[go_sem];refine qb.pure (hpr) (wA2 _ r t) ?_)
  simp[go_sem]
  first|refine qb.pure (qA 21 [a]) (wN 21 [a]) ?_ | (refine qe.intro (by kernel_rfl) ?_;simp[go_sem];refine qb.pure (qA 21 [a]) (wN 21 [a]) ?_)
  simp[go_sem]
  first|refine qb.pure (e21) (W1 21) ?_ | (refine qe.intro (by kernel_rfl) ?_;simp[go_sem];refine qb.pure (e21) (W1 21) ?_)
  simp[go_sem]
  first|refine qb.pure (qA 36 [a]) (wN 36 [a]) ?_ | (refine qe.intro (by kernel_rfl) ?_;simp[go_sem];refine qb.pure (qA 36 [a]) (wN 36 [a]) ?_)
  simp[go_sem]
  first|refine qb.pure (e36) (W1 36) ?_ | (refine qe.intro (by kernel_rfl) ?_;simp[go_sem];refine qb.pure (e36) (W1 36) ?_)
  simp[go_sem]
  first|refine qb.pure (qA 37 [a]) (wN 37 [a]) ?_ | (refine qe.intro (by kernel_rfl) ?_;simp[go_sem];refine qb.pure (qA 37 [a]) (wN 37 [a]) ?_)
  simp[go_sem]
  first|refine qb.pure (e37) (W1 37) ?_ | (refine qe.intro (by kernel_rfl) ?_;simp[go_sem];refine qb.pure (e37) (W1 37) ?_)
  simp[go_sem]
  first|refine qb.pure (ja J.1 J.2 (q7 l9 (by decide))) (wA J.1 J.2) ?_ | (refine qe.intro (by kernel_rfl) ?_;simp[go_sem];refine qb.pure (ja J.1 J.2 (q7 l9 (by decide))) (wA J.1 J.2) ?_)
  simp[go_sem]
  first|refine qb.pure (ja Q.1 Q.2 (q7 l10 (by decide))) (wA Q.1 Q.2) ?_ | (refine qe.intro (by kernel_rfl) ?_;simp[go_sem];refine qb.pure (ja Q.1 Q.2 (q7 l10 (by decide))) (wA Q.1 Q.2) ?_)
  simp[go_sem];by_cases h2:r.ar=2
  .rw [if_pos h2]at e11 e12 e13 l11 l12 l13
   simp only[qO,reV]at e11 e12 e13 l11 l12 l13;have hd:(r.ar=2)=True:=eq_true h2
   first|refine qb.pure (qA 11 [a]) (wN 11 [a]) ?_ | (refine qe.intro (by kernel_rfl) ?_;simp[go_sem,hd];refine qb.pure (qA 11 [a]) (wN 11 [a]) ?_)
   simp[go_sem,hd]
   first|refine qb.pure (e11) (W1 11) ?_ | (refine qe.intro (by kernel_rfl) ?_;simp[go_sem,hd];refine qb.pure (e11) (W1 11) ?_)
   simp[go_sem,hd]
   first|refine qb.pure (qA 12 [a]) (wN 12 [a]) ?_ | (refine qe.intro (by kernel_rfl) ?_;simp[go_sem,hd];refine qb.pure (qA 12 [a]) (wN 12 [a]) ?_)
   simp[go_sem,hd]
   first|refine qb.pure (e12) (W1 12) ?_ | (refine qe.intro (by kernel_rfl) ?_;simp[go_sem,hd];refine qb.pure (e12) (W1 12) ?_)
   simp[go_sem,hd]
   first|refine qb.pure (qA 13 [a]) (wN 13 [a]) ?_ | (refine qe.intro (by kernel_rfl) ?_;simp[go_sem,hd];refine qb.pure (qA 13 [a]) (wN 13 [a]) ?_)
   simp[go_sem,hd]
   first|refine qb.pure (e13) (W1 13) ?_ | (refine qe.intro (by kernel_rfl) ?_;simp[go_sem,hd];refine qb.pure (e13) (W1 13) ?_)
   simp[go_sem,hd]
   first|refine qb.pure (U5 (sumI m.sc.atoms) h0 h12 r gr h2) (w2 _ r) ?_ | (refine qe.intro (by kernel_rfl) ?_;simp[go_sem,hd];refine qb.pure (U5 (sumI m.sc.atoms) h0 h12 r gr h2) (w2 _ r) ?_)
   simp[go_sem,hd]
   first|refine qb.pure (ja (trR (sumI m.sc.atoms) r) 0 (q7 l11 (by decide))) (wA _ 0) ?_ | (refine qe.intro (by kernel_rfl) ?_;simp[go_sem,hd];refine qb.pure (ja (trR (sumI m.sc.atoms) r) 0 (q7 l11 (by decide))) (wA _ 0) ?_)
   simp[go_sem,hd]
   first|refine qb.pure (Yx (sumI m.sc.atoms) h0 h12 r gr h2) (w2 _ r) ?_ | (refine qe.intro (by kernel_rfl) ?_;simp[go_sem,hd];refine qb.pure (Yx (sumI m.sc.atoms) h0 h12 r gr h2) (w2 _ r) ?_)
   simp[go_sem,hd]
   first|refine qb.pure (ja (clR (sumI m.sc.atoms) 200 r) 0 (q7 l12 (by decide))) (wA _ 0) ?_ | (refine qe.intro (by kernel_rfl) ?_;simp[go_sem,hd];refine qb.pure (ja (clR (sumI m.sc.atoms) 200 r) 0 (q7 l12 (by decide))) (wA _ 0) ?_)
   simp[go_sem,hd]
   first|refine qb.pure (Yx (sumI m.sc.atoms) h0 h12 r gr h2) (w2 _ r) ?_ | (refine qe.intro (by kernel_rfl) ?_;simp[go_sem,hd];refine qb.pure (Yx (sumI m.sc.atoms) h0 h12 r gr h2) (w2 _ r) ?_)
   simp[go_sem,hd]
   first|refine qb.pure (Vi (sumI m.sc.atoms) h0 h12) (.cons (.hf (HF.sc _)) .nil) ?_ | (refine qe.intro (by kernel_rfl) ?_;simp[go_sem,hd];refine qb.pure (Vi (sumI m.sc.atoms) h0 h12) (.cons (.hf (HF.sc _)) .nil) ?_)
   simp[go_sem,hd]
   first|refine qb.pure (y7 (clR (sumI m.sc.atoms) 200 r) (idR (sumI m.sc.atoms)) (q7 l12 (by decide)) (by have:=n7 h0 h12;omega)) (wkR2 _ _) ?_ | (refine qe.intro (by kernel_rfl) ?_;simp[go_sem,hd];refine qb.pure (y7 (clR (sumI m.sc.atoms) 200 r) (idR (sumI m.sc.atoms)) (q7 l12 (by decide)) (by have:=n7 h0 h12;omega)) (wkR2 _ _) ?_)
   simp[go_sem,hd]
   first|refine qb.pure (ja (unR (clR (sumI m.sc.atoms) 200 r) (idR (sumI m.sc.atoms))) 0 (q7 l13 (by decide))) (wA _ 0) ?_ | (refine qe.intro (by kernel_rfl) ?_;simp[go_sem,hd];refine qb.pure (ja (unR (clR (sumI m.sc.atoms) 200 r) (idR (sumI m.sc.atoms))) 0 (q7 l13 (by decide))) (wA _ 0) ?_)
   simp[go_sem,hd]
   first|refine qb.pure (hpp) (wP ts m k env a b r t) ?_ | (refine qe.intro (by kernel_rfl) ?_;simp[go_sem,hd];refine qb.pure (hpp) (wP ts m k env a b r t) ?_)
   simp[go_sem,hd];exact .hf _ (HF.sc _)
  .rw [if_neg h2]at e11 e12 e13 l11 l12 l13
   simp only[q9,reV]at e11 e12 e13 l11 l12 l13
   first|refine qb.pure (qA 11 [a]) (wN 11 [a]) ?_ | (refine qe.intro (by kernel_rfl) ?_;simp[go_sem,h2];refine qb.pure (qA 11 [a]) (wN 11 [a]) ?_)
   simp[go_sem,h2]
   first|refine qb.pure (e11) (W1 11) ?_ | (refine qe.intro (by kernel_rfl) ?_;simp[go_sem,h2];refine qb.pure (e11) (W1 11) ?_)
   simp[go_sem,h2]
   first|refine qb.pure (qA 12 [a]) (wN 12 [a]) ?_ | (refine qe.intro (by kernel_rfl) ?_;simp[go_sem,h2];refine qb.pure (qA 12 [a]) (wN 12 [a]) ?_)
   simp[go_sem,h2]
   first|refine qb.pure (e12) (W1 12) ?_ | (refine qe.intro (by kernel_rfl) ?_;simp[go_sem,h2];refine qb.pure (e12) (W1 12) ?_)
   simp[go_sem,h2]
   first|refine qb.pure (qA 13 [a]) (wN 13 [a]) ?_ | (refine qe.intro (by kernel_rfl) ?_;simp[go_sem,h2];refine qb.pure (qA 13 [a]) (wN 13 [a]) ?_)
   simp[go_sem,h2]
   first|refine qb.pure (e13) (W1 13) ?_ | (refine qe.intro (by kernel_rfl) ?_;simp[go_sem,h2];refine qb.pure (e13) (W1 13) ?_)
   simp[go_sem,h2]
   first|refine qb.pure (hpp) (wP ts m k env a b r t) ?_ | (refine qe.intro (by kernel_rfl) ?_;simp[go_sem,h2];refine qb.pure (hpp) (wP ts m k env a b r t) ?_)
   simp[go_sem,h2];exact .hf _ (HF.sc _)
end FN
namespace DL
open Go.EvW Go.RowKit Go.ChangeShapes Go.WideShapes
theorem own:ownKnob qd.godebug=none:=by kernel_rfl
theorem laid:laidOutB qd=true:=by kernel_rfl
abbrev tabL : List (String × DataW Unit) := [("math/bits.deBruijn32tab", Rows.laid_math_bits_deBruijn32tab), ("math/bits.deBruijn64tab", Rows.laid_math_bits_deBruijn64tab), ("internal/strconv.uint64pow10", Rows.laid_internal_strconv_uint64pow10)]
def pows:List Int:=[1,10,100,1000,10000,100000,1000000,10000000,100000000,1000000000,10000000000,100000000000,1000000000000,10000000000000,100000000000000,1000000000000000,10000000000000000,100000000000000000,1000000000000000000,10000000000000000000]
theorem gPow : qd.globalNamed "internal/strconv.uint64pow10" = some 0 := by kernel_rfl
theorem tPow:(qd.globals[0]?).map (·.type)=some 330:=by kernel_rfl
theorem uPow:qd.underlying 330=some (.array 20 271):=by kernel_rfl
theorem uU64:qd.underlying 271=some (.int .u64):=by kernel_rfl
theorem n9{W:World}(h:laidMetH qd tabL W):wU (·<W.heap.size) W.heap:=by
  rw[MakeChecks.laidMetH_plain _ _ _ (by kernel_rfl)]at h;obtain⟨ps,hl,_⟩:=h
  obtain ⟨g, t, cs, fuel, p, hg, ht, hv, hd⟩ := gA hl ("internal/strconv.uint64pow10", Rows.laid_internal_strconv_uint64pow10) (by simp)
  obtain rfl:=Option.some.inj (gPow.symm.trans hg);obtain rfl:=Option.some.inj (tPow.symm.trans ht);have hc:cs.toList=pows.map fun i => .int .u64 i:=qg4 uPow uU64 (by kernel_rfl) (by kernel_rfl) (ns:=pows) hd
  obtain⟨e,fr,ho⟩:=qg5 gPow hv;intro x hx;have hx:x∈[(0,pows.map fun i=>Value.int .u64 i)]:=hx;rw[qW]at hx;subst hx;refine⟨(Array.getElem?_eq_some_iff.1 ho).1,e,fr,?_⟩;show W.heap[0]?=_;rw[ho];have:cs=(pows.map fun i=>Value.int .u64 i).toArray:=by rw[<-hc]
  rw[this]
theorem mc(os:Os)(args:Array Value):laidMetH qd tabL ((World.doorLaid qd 4000 os).forCall (fun _ _=>0) ⟨#[],args,[]⟩).memory:=
 laidMetH_of_parts3 (fuel:=8) (laidMet_of_run' 8 (by kernel_rfl) (by kernel_rfl)) (by kernel_rfl) (by kernel_rfl)
end DL
namespace DM
open Go.EvW YF Y1 E3 DT
instance:Inhabited Rl:=⟨⟨0,[]⟩⟩
instance:Inhabited Sc:=⟨⟨[],0⟩⟩
instance:Inhabited Md:=⟨⟨default,[],0⟩⟩
theorem qjS:qd.underlying 77=some (.slice 42):=by kernel_rfl
theorem qjT:qd.underlying 31=some (.slice 77):=by kernel_rfl
theorem me:qd.underlying 34=some (.slice 68):=by kernel_rfl
theorem shRel(N:Nat):ShU qd N 42 cRel (fun _=>True):=
 ((ShU.struct (fs:=[(3,0),(28,1)]) (by kernel_rfl) (.cons' (o':=1) (by kernel_rfl) (uC N) (.cons' (o':=2) (by kernel_rfl) (WT N) (.nil 2))) (by kernel_rfl)).map
  (fun x=>(⟨x.1,x.2.1⟩:Rl)) (fun _=>rfl) (fun x h=>trivial)).le (by omega)
theorem qjU(N:Nat):ShU qd N 77 (fun b:List Rl=>[.lst false (b.map cRel)]) (fun _=>True):=
 ((ShU.slice qjS (shRel N) (fun _ _=>by kernel_rfl) (Nat.lt_of_lt_of_eq (show 0<2 by omega) (by kernel_rfl)) (by kernel_rfl)).le (by omega)).map (fun l=>l) (fun _=>rfl) fun _ _=>trivial
theorem qjV(N:Nat):ShU qd N 31 (fun b:List (List Rl)=>[lSt b]) (fun _=>True):=
 ((ShU.slice qjT (qjU N) (fun _ _=>by kernel_rfl) (Nat.lt_of_lt_of_eq (show 0<1 by omega) (by kernel_rfl)) (by kernel_rfl)).le (by omega)).map (fun l=>l) (fun _=>rfl) fun _ _=>trivial
theorem qjW(N:Nat):ShU qd N 30 (fun s:Sc=>[lI s.atoms,aI s.steps]) (fun _=>True):=
 ((ShU.struct (fs:=[(28,0),(3,1)]) (by kernel_rfl) (.cons' (o':=1) (by kernel_rfl) (WT N) (.cons' (o':=2) (by kernel_rfl) (uC N) (.nil 2))) (by kernel_rfl)).map
  (fun x=>(⟨x.1,x.2.1⟩:Sc)) (fun _=>rfl) (fun x h=>trivial)).le (by omega)
theorem qjX(N:Nat):ShU qd N 33 cMd (fun _=>True):=
 ((ShU.struct (fs:=[(30,0),(31,2),(3,3)]) (by kernel_rfl) (.cons' (o':=2) (by kernel_rfl) (qjW N) (.cons' (o':=3) (by kernel_rfl) (qjV N) (.cons' (o':=4) (by kernel_rfl) (uC N) (.nil 4)))) (by kernel_rfl)).map
  (fun x=>(⟨x.1,x.2.1,x.2.2.1⟩:Md)) (fun _=>rfl) (fun x h=>trivial)).le (by omega)
theorem mf:yz qd 33 eMd (fun _=>True):=yz.struct (by kernel_rfl) qjX
theorem aInt:yz qd 3 (fun n:Int=>aI n) okI:=yz.int gB uC
theorem aStr:yz qd 9 (fun s:ByteArray=>aS s) (fun _=>True):=yz.string gC fun N=>(wR N).map (fun s=>s) (fun _=>rfl) fun _ _=>trivial
theorem qjY(N:Nat):ShU qd N 68 cPm (fun _=>True):=
 ((ShU.struct (fs:=[(9,0),(3,1)]) (by kernel_rfl) (.cons' (o':=1) (by kernel_rfl) (wR N) (.cons' (o':=2) (by kernel_rfl) (uC N) (.nil 2))) (by kernel_rfl)).map
  (fun x=>((x.1,x.2.1):ByteArray×Int)) (fun _=>rfl) (fun x h=>trivial)).le (by omega)
theorem qjZ(N:Nat):ShU qd N 34 (fun l:List (ByteArray×Int)=>[lPm l]) (fun l=>l.length<=140737488351232):=
 ((ShU.slice me (qjY N) (fun _ _=>by kernel_rfl) (Nat.lt_of_lt_of_eq (show 0<2 by omega) (by kernel_rfl)) (by kernel_rfl)).le (by omega)).map (fun l=>l) (fun _=>rfl) fun _ h=>h.1
theorem mg:yz qd 34 lPm (fun l=>l.length<=140737488351232):=yz.slice me qjZ
end DM
end Go.Proofs.YtkglmpmlfjogkaaGreatDoor
