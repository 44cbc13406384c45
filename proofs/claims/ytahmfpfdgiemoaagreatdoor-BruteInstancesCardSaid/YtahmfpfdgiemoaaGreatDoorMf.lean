/-
  Own library, part 6: an abstract reading of values and a calculus over it; contracts of functions; plain lemmas.
-/
import Derived.Test.YtahmfpfdgiemoaaGreatDoorMe
set_option linter.unusedVariables false
set_option linter.unusedSimpArgs false
set_option maxRecDepth 100000
open Go.Proofs.Tryz renaming prog->qb
open List renaming getElem?_eq_some_iff->qe,mem_map->qk,range->qo,getElem_mem->qt,mem_cons->qu,getElem?_eq_getElem->qv,mem_append->qC,not_mem_nil->qD,getElem?_append_left->qI,all_eq_true->qJ,mem_cons_of_mem->qK,mem_singleton->qN,mem_cons_self->qR,getElem?_append_right->qT,length_append->qU,take_length->qX,append_assoc->zc,map_append->zd,getElem?_set_self->zo,replicate->zp,length_cons->zq,drop_eq_getElem_cons->zD,length_map->zJ,take_of_length_le->zK,append_nil->zL,mem_range->yj,getElem?_eq_none->yC,drop_length->yR,take_succ_eq_append_getElem->jF,nil_append->um,flatMap_cons->wC,getElem_append_left->XI
open Option.some renaming injEq->qj
open Nat renaming le_refl->qn,le_trans->zV,zero_add->yc
open Bool renaming and_eq_true->qq,eq_iff_iff->vI
open Go.IntKind renaming i64->qs
open Int renaming tmod_eq_emod_of_nonneg->u3
namespace Go.Proofs.YtahmfpfdgiemoaaGreatDoor
open Go Go.Ev Go.Proofs Tryz
namespace PG
open Y1 Y2 P1 P2 Y9 YZ
section
variable {nm:ByteArray}
theorem qiJ{ns:Nat}{op n pos:Int}{l:List (Option Kd)}{e:Dg}(h:zG ns op n pos l = .error e):40<=e.1:=by
 unfold zG at h
 repeat' split at h
 all_goals first
  | (cases h;done)
  | (cases h;simp)
theorem qiK{c:Ck}{s:Scp}{pos:Int}{e:Dg}(h:yV c s nm pos = .error e):40<=e.1:=by
 unfold yV at h
 repeat' split at h
 all_goals first
  | (cases h;done)
  | (cases h;simp)
section
variable {c:Ck}
theorem Xa{inn:Bool}:∀{ks:List Nd} {s:Scp} {e:Dg},(∀ k,k∈ks->∀ s e,exam c s inn k = .error e->40<=e.1)->qP c s inn ks = .error e->40<=e.1
 | [],s,e,_,h=>by simp only[qP]at h;cases h
 |k :: ks,s,e,i,h=>by
  simp only[qP]at h;split at h
  .rename_i j g
   cases h;exact i k (qR ..) s _ g
  .split at h
   .rename_i j g
    cases h;exact Xa (fun k l=>i k (qK _ l)) g
   .cases h
theorem nn{pos:Int}:∀{ks:List Nd} {ps:List (ByteArray×Int)} {s:Scp} {e:Dg},(∀ k,k∈ks->∀ s e,exam c s true k = .error e->40<=e.1)->z6 c s pos ps ks = .error e->40<=e.1
 | [],ps,s,e,_,h=>by cases ps<;>(simp only[z6]at h;cases h)
 |k :: ks,[],s,e,_,h=>by simp only[z6]at h;cases h
 |k :: ks,p :: ps,s,e,g,h=>by
  simp only[z6]at h;split at h
  .rename_i l i
   cases h;exact g k (qR ..) s _ i
  .cases h;simp
  .split at h
   .split at h
    .exact nn (fun k j=>g k (qK _ j)) h
    .cases h;simp
   .cases h;simp
theorem qiL{inn:Bool}{pos:Int}:∀{ks:List Nd} {s:Scp} {e:Dg},(∀ k,k∈ks->∀ s e,exam c s inn k = .error e->40<=e.1)->zH c s inn nm pos ks = .error e->40<=e.1
 | [],s,e,_,h=>by simp only[zH]at h;cases h
 |k :: ks,s,e,i,h=>by
  simp only[zH]at h;split at h
  .rename_i j g
   cases h;exact i k (qR ..) s _ g
  .cases h;simp
  .split at h
   .split at h
    .rename_i j g
     cases h;exact Xa (fun k l=>i k (qK _ l)) g
    .cases h
   .cases h;simp
theorem Yq(c:Ck):∀(m:Nat) (n:Nd) (s:Scp) (inn:Bool) (e:Dg),szN n<=m->exam c s inn n = .error e->40<=e.1
 | 0,n,_,_,_,j,_=>by obtain⟨op,nm,i,ks,p⟩:=n;simp[szN]at j
 |m+1,n,s,inn,e,j,h=>by
  have g:∀ inn k,k∈n.kids->∀ s e,exam c s inn k = .error e->40<=e.1:=fun inn k l s e h=>Yq c m k s inn e (zW1 (yv l)) h
  rw[yw]at h;split at h
  .cases h;simp
  split at h
  .exact qiK h
  split at h
  .split at h
   .split at h
    .cases h;simp
    .split at h
     .cases h;simp
     .split at h
      .exact nn (g true) h
      .cases h;simp
   .cases h;simp
  split at h
  .exact qiL (g _) h
  .split at h
   .rename_i r o
    cases h;exact Xa (g _) o
   .exact qiJ h
end
end
theorem nq{ks:List Nd}{k:Nd}(h:k∈ks):depN k<=z8 ks:=by
 induction ks with
 |nil=>simp at h
 |cons a l g =>
  simp only[z8];rcases qu.1 h with rfl|h
  .omega
  .have:=g h;omega
theorem nr(n:Nd):1<=depN n:=by
 rw[Zh];have:∀ ks:List Nd,0<=z8 ks:=by
  intro ks;induction ks with
  |nil=>simp[z8]
  |cons a l g=>simp only[z8];omega
 have:=this n.kids;omega
end PG
namespace PF
open P1 P2 Y1 Y2 Y9 Y16 YZ YB YC YE YG Q2 Q4 Q6 PC PE PG
mutual
theorem Xb:∀(n:Nd) (left:Int),cntT n<=left->cntN n left=cntT n
 | .mk op t i ks p,left,h=>by
  simp only[cntT,cntN]at h⊢;exact nt ks left 1 h
theorem nt:∀(ks:List Nd) (left sum:Int),sum+yp ks<=left->yg ks left sum=sum+yp ks
 | [],left,sum,h=>by simp only[yp,yg];omega
 |k :: ks,left,sum,h=>by
  simp only[yp,yg]at h⊢;have g:=WU k;have i:=Vo ks;rw[if_pos zOm,Xb k (left-sum) zOm,nt ks left _ zOm];omega
end
mutual
theorem nu:∀(n:Nd) (left:Int),cntN n left<=left->cntT n<=left
 | .mk op t i ks p,left,h=>by
  simp only[cntT,cntN]at h⊢;exact nv ks left 1 h
theorem nv:∀(ks:List Nd) (left sum:Int),yg ks left sum<=left->sum+yp ks<=left
 | [],left,sum,h=>by simp only[yp,yg]at h⊢;omega
 |k :: ks,left,sum,h=>by
  simp only[yp,yg]at h⊢;split at h
  .have i:=(Wi ks left (sum+cntN k (left-sum))).1
   have g:cntN k (left-sum)<=left-sum:=zOm;have j:=Xb k (left-sum) (nu k _ g);have l:=nv ks left _ h;omega
  .omega
end
section
variable {c:Ck}
theorem qiM{ks:List Nd}{d:Int}(j:0<=d)(h:∀ k,k∈ks->depN k<=d):z8 ks<=d:=by
 induction ks with
 |nil=>simp only[z8];omega
 |cons a l g =>
  simp only[z8];have o:=h a (qR ..);have p:=g fun k i=>h k (qK _ i)
  omega
theorem qiN{ks:List Nd}{g:Int}(h:∀ k,k∈ks->forN k g=true):vq ks g=true:=by
 induction ks with
 |nil=>rfl
 |cons a l i =>
  simp only[vq,qq];exact⟨h a (qR ..),i fun k j=>h k (qK _ j)⟩
theorem ny:∀(m:Nat) (n:Nd) (g:Int),szN n<=m->WfN n->OwnT n->depN n<=g->forN n g=true
 | 0,n,_,l,_,_,_=>by obtain⟨op,nm,i,ks,p⟩:=n;simp[szN]at l
 |m+1,n,g,l,o,r,t=>by
  have C:=nr n;rw[J9,zIn,r n (vu n),Bool.true_and,qq];refine⟨?_,qiN fun k j=>ny m k (g-1) (zW1 (yv j)) (o.kid j) (r.kid j) ?_⟩
  .unfold fitB
   rw[decide_eq_true_eq];exact o.shape
  .have:=nq j
   rw[Zh]at t;omega
theorem nz:∀(m:Nat) (n:Nd) (l:Int),szN n<=m->forN n l=true->OwnT n/\depN n<=l
 | 0,n,_,o,_=>by obtain⟨op,nm,i,ks,p⟩:=n;simp[szN]at o
 |m+1,n,l,o,h=>by
  rw[J9]at h;split at h
  .cases h
  .rename_i I
   simp only[qq]at h;obtain⟨t,J,C⟩:=h;have r:=fun k (g:k∈n.kids)=>nz m k (l-1) (zW1 (yv g)) (pa C k g)
   refine⟨fun x j=>?_,?_⟩
   .rw [uS]at j
    rcases qu.1 j with rfl|j
    .exact t
    .obtain ⟨k,g,j⟩:=Vx j
     exact(r k g).1 x j
   .rw [Zh]
    have:=qiM (ks:=n.kids) (d:=l-1) zOm fun k g=>(r k g).2
    omega
theorem ug{n:Nd}:qY n=true↔WfN n/\OwnT n/\cntT n<=400/\depN n<=24:=by
 constructor
 .intro h
  have i:=ub h;simp only[qY,qq,decide_eq_true_eq]at h;obtain⟨a,b⟩:=nz (szN n) n 24 (qn _) h.2;exact⟨i,a,nu n 400 h.1,b⟩
 .rintro ⟨j,l,g,o⟩
  simp only[qY,qq,decide_eq_true_eq];exact⟨by rw[Xb n 400 g];exact g,ny (szN n) n 24 (qn _) j l o⟩
theorem nA{nm:ByteArray}{i:Nat}(h:zb c nm=some i)(g:i<c.ts.preds.length):(c.ts.preds.find? fun p=>decide (p.name=nm))=some c.ts.preds[i]:=by
 unfold zb at h;rw[List.findIdx?_eq_some_iff_getElem]at h;obtain⟨t,l,o⟩:=h;rw[List.find?_eq_some_iff_getElem];refine⟨?_,i,g,rfl,fun j r=>?_⟩
 .have:=l
  simp only[List.getElem_take]at this;exact this
 .have:=o j r
  simp only[List.getElem_take]at this;simpa using this
theorem nB{s:Scp}{pos:Int}:∀{ks:List Nd} {ps:List (ByteArray×Int)} {l:Option Kd},ps.length=ks.length->z6 c s pos ps ks = .ok l->∀ k,k∈ks->∃ a,exam c s true k = .ok a
 | [],_,_,_,_,k,g=>absurd g qD
 |k :: ks,[],_,i,_,_,_=>by simp at i
 |k :: ks,p :: ps,l,i,h,x,j=>by
  simp only[z6]at h;split at h
  .cases h
  .cases h
  .rename_i a g
   split at h
   .split at h
    .rcases qu.1 j with rfl|j
     .exact ⟨_,g⟩
     .exact nB (zUs i) h x j
    .cases h
   .cases h
theorem Xc{s:Scp}{inn:Bool}:∀{ks:List Nd} {l:List (Option Kd)},qP c s inn ks = .ok l->∀ k,k∈ks->∃ a,exam c s inn k = .ok a
 | [],_,_,k,g=>absurd g qD
 |k :: ks,l,h,x,i=>by
  simp only[qP]at h;split at h
  .cases h
  .rename_i a g
   split at h
   .cases h
   .rename_i o j
    rcases qu.1 i with rfl|i
    .exact ⟨_,g⟩
    .exact Xc j x i
theorem Xd(hc:okCk c):∀(m:Nat) (n:Nd) (s:Scp) (inn:Bool) (o:Option Kd),szN n<=m->exam c s inn n = .ok o->WfN n->js c.ts n
 | 0,n,_,_,_,hm,_,_=>by obtain⟨op,nm,i,ks,p⟩:=n;simp[szN]at hm
 |m+1,n,s,inn,o,hm,h,hw=>fun x j ho=>by
  have ih:∀ k,k∈n.kids->∀ s inn o,exam c s inn k = .ok o->js c.ts k:=fun k t s inn o h=>Xd hc m k s inn o (zW1 (yv t)) h (hw.kid t)
  rw[yw]at h;rw[uS]at j;split at h
  .cases h
  by_cases h1:n.op=1
  .rw [W7 hw h1]at j
   rcases qu.1 j with rfl|j
   .omega
   .simp [zj]at j
  rw[if_neg h1]at h;have C:∀(s:Nd->Scp) (inn:Nd->Bool),(∀ k,k∈n.kids->∃ o,exam c (s k) (inn k) k = .ok o)->x∈zj n.kids->∃ p,(c.ts.preds.find? fun p=>decide (p.name=x.name))=some p/\p.params.length=x.kids.length:=fun s inn t j=>by
   obtain⟨k,P,j⟩:=Vx j;obtain⟨o,a0⟩:=t k P;exact ih k P _ _ _ a0 x j ho
  by_cases h47:n.op=47
  .rw [if_pos h47]at h
   split at h
   .split at h
    .cases h
    .rename_i i I
     obtain⟨_,R⟩:=Qy hc I;rw[qv R]at h;simp only at h;split at h
     .rename_i J
      rcases qu.1 j with rfl|j
      .exact ⟨_,nA I R,J⟩
      .exact C (fun _=>s) (fun _=>true) (nB J h) j
     .cases h
   .cases h
  rw[if_neg h47]at h;have j:x∈zj n.kids:=by
   rcases qu.1 j with rfl|j
   .exact absurd ho h47
   .exact j
  by_cases T:n.op=15\/n.op=45\/n.op=46
  .rw [if_pos T]at h
   obtain⟨a,g,r,_⟩:=VA hw T;rw[r]at h;simp only[zH]at h;split at h
   .cases h
   .cases h
   .rename_i k t
    split at h
    .split at h
     .cases h
     .rename_i l hl
      obtain⟨y,U,j⟩:=Vx j;rw[r]at U;rcases qu.1 U with rfl|U
      .exact ih y (by rw[r];simp) _ _ _ t x j ho
      .rw [qN]at U
       subst U;obtain⟨b,T⟩:=Xc hl y zSp;exact ih y (by rw[r];simp) _ _ _ T x j ho
    .cases h
  .rw [if_neg T]at h
   split at h
   .cases h
   .rename_i l hl
    exact C (fun _=>s) (fun _=>_) (fun k t=>Xc hl k t) j
theorem VB{env:List (ByteArray×Int)}{n:Nd}(h:(jN c env n).1=0):30<=n.op/\∃ g,exam c (yL env) false n = .ok g:=by
 unfold jN at h;split at h
 .rename_i i
  refine⟨i,?_⟩;cases j:exam c (yL env) false n with
  |ok g=>exact⟨g,rfl⟩
  |error e =>
   rw[j]at h;have:=PG.Yq c (szN n) n _ _ e (qn _) j;have h:e.1=0:=h;omega
 .have h:(43:Int)=0:=h
  omega
theorem nD{ts:TS}(h:yW ts=[])(i:Nat)(g:i<ts.preds.length):(jN (mkCk ts i) ts.preds[i].params ts.preds[i].body).1=0:=by
 unfold yW at h;simp only[List.append_eq_nil_iff]at h;have:=h.2.2.1;rw[List.flatMap_eq_nil_iff]at this;have:=this i (yj.2 g);unfold jP at this;rw[qv g]at this;simp only[List.append_eq_nil_iff]at this;have:=this.2.2;unfold rp at this;split at this
 .assumption
 .cases this
theorem Xe(l:List Nd):∀(es:List (ByteArray×Bool)) (nm:ByteArray),(getK nm es=some true\/∃ x,x∈l/\x.name=nm)->getK nm (putN es l)=some true:=by
 induction l with
 |nil =>
  intro es nm h;rcases h with h|⟨x,g,_⟩
  .exact h
  .exact absurd g qD
 |cons a l j =>
  intro es nm h;refine j _ nm ?_;rw[v6];by_cases e:nm=a.name
  .rw [if_pos e];exact .inl rfl
  .rw [if_neg e]
   rcases h with h|⟨x,g,i⟩
   .exact .inl h
   .rcases qu.1 g with rfl|g
    .exact absurd i.symm e
    .exact .inr ⟨x,g,i⟩
theorem qiO(ts:TS)(n:Nd):Tk (yO ts n) n/\∀ p,p∈ts.preds->Tk (yO ts n) p.body:=by
 have j:∀(l:List Pd) (T:List (ByteArray×Bool)) (t:ByteArray),(getK t T=some true\/∃ p,p∈l/\∃ x,x∈preN p.body/\x.name=t)->getK t (l.foldl (fun T p=>putN T (preN p.body)) T)=some true:=by
  intro l;induction l with
  |nil =>
   intro T t h;rcases h with h|⟨p,g,_⟩
   .exact h
   .exact absurd g qD
  |cons a l o =>
   intro T t h;refine o _ t ?_;rcases h with h|⟨p,g,i⟩
   .exact .inl (Xe _ _ _ (.inl h))
   .rcases qu.1 g with rfl|g
    .exact .inl (Xe _ _ _ (.inr i))
    .exact .inr ⟨p,g,i⟩
 refine⟨fun x i=>j _ _ _ (.inl (Xe _ _ _ (.inr ⟨x,i,rfl⟩))),fun p g x i=>j _ _ _ (.inr ⟨p,g,x,i,rfl⟩)⟩
theorem nE(l:List Nd):∀ es:List (ByteArray×Bool),(putN es l).length<=es.length+l.length:=by
 have i:∀(es:List (ByteArray×Bool)) (k:ByteArray),(setK k true es).length<=es.length+1:=by
  intro es k;induction es with
  |nil=>simp[setK]
  |cons a es g=>unfold setK;split<;>simp<;>omega
 induction l with
 |nil=>intro es;simp[putN]
 |cons a l g =>
  intro es;have:=g (setK a.name true es);have:=i es a.name;show (putN (setK a.name true es) l).length<=_;simp only[zq];omega
mutual
theorem Yr:∀ n:Nd,((preN n).length:Int)=cntT n
 | .mk op nm i ks p=>by simp only[preN,cntT,zq];have:=nG ks;omega
theorem nG:∀ ks:List Nd,((zj ks).length:Int)=yp ks
 | []=>rfl
 |k :: ks=>by simp only[zj,yp,qU];have:=Yr k;have:=nG ks;omega
end
end
theorem nH{ts:TS}(h:okTS ts)(j:∀ p,p∈ts.preds->qY p.body=true){n:Nd}(o:qY n=true):qp ts (yO ts n)<=200000:=by
 have r:∀(l:List Pd) (T:List (ByteArray×Bool)),(∀ p,p∈l->qY p.body=true)->(l.foldl (fun T p=>putN T (preN p.body)) T).length<=T.length+400*l.length:=by
  intro l;induction l with
  |nil=>intro T _;simp
  |cons a l t =>
   intro T g;have C:=t (putN T (preN a.body)) fun p I=>g p (qK _ I)
   have i:=nE (preN a.body) T;have J:=Yr a.body;have P:=(ug.1 (g a (qR ..))).2.2.1;rw[List.foldl_cons];simp only[zq];omega
 have C:=r ts.preds (putN [] (preN n)) j;have i:=nE (preN n) [];have J:=Yr n;have P:=(ug.1 o).2.2.1;have:=h.np;have:=h.nf;have:=h.ns;unfold qp yO;simp only[List.length_nil]at i;omega
theorem qiP{ts:TS}(h:okTS ts)(U:∀ p,p∈ts.preds->qY p.body=true)(hk:yW ts=[]){n x:Nd}(hn:qY n=true)(hc:(ye ts [] n).1=0)(r:anyN (fun n=>decide (n.op=47)) n=true)(o:yz ts n=(x,0)) :
  qY x=true/\anyN (fun n=>decide (n.op=47)) x=false/\ye ts [] x=(0,0)/\yz ts x=(x,0):=by
 have hw:=ub hn;have a0:=(ug.1 hn).2.1;have hF:=nH h U hn;obtain⟨t1,t2⟩:=qiO ts n;generalize a1:yO ts n=T at *
 have hP:W8 ts T:=fun i o=>by
  have hm:=qt o;obtain⟨a,b⟩:=VB (nD hk i o);exact⟨b,a,ub (U _ hm),t2 _ hm,(ug.1 (U _ hm)).2.1⟩
 unfold yz at o;rw[if_neg (zUs hc),if_neg (by simp[r]),a1]at o;unfold outI at o;split at o
 .rename_i d hd
  exfalso;have h1:=qg7 hd;have h2:d.1=0:=congrArg Prod.snd o;omega
 .rename_i l j
  have e:l=x:=congrArg Prod.fst o;subst e;split at j
  .cases j
  .rename_i n2 z a2 he
   split at j
   .rename_i hz
    cases j;obtain⟨a3,ko,C⟩:=VB (c:=mkCk ts ts.preds.length) (env:=[]) hc;have a4:StOk (qp ts T) ⟨0,0⟩:=⟨zSp,zSp,zSp,by simp[pot]⟩;have out:=nj ts h T hP hF (gO ts T) 4001 [] n false ⟨0,0⟩ l z a2 [] [] false ts.preds.length ko (qn _) hw t1 a0 (fun v I=>absurd I qD) a4 .nil
     ⟨fun v I=>absurd I qD,fun v _=>trivial,fun _ v iv e=>by cases e⟩ he C
    obtain⟨a6,a7⟩:=Ym ts (fun p hp=>ub (U p hp)) T 4001 (env:=[]) (fun e he=>absurd he qD) hw he;have I:qY l=true:=ug.2 ⟨out.good.wf,fun x C=>(out.good.all x C).own,zOm,hz.2⟩;have J:anyN (fun n=>decide (n.op=47)) l=false:=by
     rw[WW _ (szN l) l (qn _),List.any_eq_false];intro x C;have:=(out.good.all x C).nc;simpa using this
    have g:kd l.op=102:=by rw[out.kd];exact ng hw a3
    have P:30<=l.op:=by
     unfold kd at g;split at g
     .omega
     .split at g
      .omega
      .split at g<;>omega
    obtain⟨a5,t,_⟩:=out.ex;have R:ye ts [] l=(0,0):=by
     unfold ye jN;rw[if_pos P];have t:exam (mkCk ts ts.preds.length) (yL []) false l = .ok a5:=t;rw[t];rfl
    refine⟨I,J,R,?_⟩;unfold yz;rw[R,if_neg zSp,if_pos J]
   .cases j
end PF
namespace EH
end EH
namespace FJ
end FJ
namespace IA
end IA
namespace QC
end QC
namespace QD
open YF P1 Y1 Y2
section
variable {nm:ByteArray}{x:ByteArray×Bool}{c:List AV}{i:Nat}
def atF(a:Int):List Int->Int
 | []=>a
 |x :: l=>atF (qs.wrap (qs.wrap (4*a)+x)) l
def zs:List AV:=zp 64 (aB false)
def oneC(l:List Int):List AV:=aI l.length :: (if 0<=atF 0 l/\atF 0 l<64 then zs.set (atF 0 l).toNat (aB true) else zs)
structure SetC (c:List AV):Prop where
 len:c.length=65
 sc:∀ x,x∈c->x.one=true/\HF x
theorem SetC.one(h:SetC c):∀ x,x∈c->x.one=true:=fun x g=>(h.sc x g).1
theorem SetC.hf(h:SetC c):HF (.agg c):=HF.agg fun x g=>(h.sc x g).2
theorem SetC.take(h:SetC c):List.take 65 c=c:=zK (by rw[h.len];exact qn _)
theorem SetC.put{d:List AV}(h:SetC c)(g:SetC d):putCells c 0 d=d:=by
 rw[yq _ _ _ (by rw[h.len,g.len];exact qn _)];simp[h.len,g.len,List.drop_of_length_le]
theorem SetC.zero:SetC (aI 0 :: zs):=⟨rfl,fun x g=>by
 rcases qu.1 g with rfl|g
 .exact ⟨rfl,HF.sc _⟩
 .rw [List.eq_of_mem_replicate g];exact⟨rfl,HF.sc _⟩⟩
theorem SetC.oneC(l:List Int):SetC (oneC l):=by
 have i:∀ x:AV,x∈zs->x.one=true/\HF x:=fun x g=>by rw[List.eq_of_mem_replicate g];exact⟨rfl,HF.sc _⟩
 unfold QD.oneC;split
 .refine ⟨by simp[zs],fun x g=>?_⟩
  rcases qu.1 g with rfl|g
  .exact ⟨rfl,HF.sc _⟩
  .rcases List.mem_or_eq_of_mem_set g with h|rfl
   .exact i x h
   .exact ⟨rfl,HF.sc _⟩
 .refine ⟨by simp[zs],fun x g=>?_⟩
  rcases qu.1 g with rfl|g
  .exact ⟨rfl,HF.sc _⟩
  .exact i x g
theorem oneU(l:List Int)(hl:l.length<=140737488351232):qd qb 166 [lI l] (.agg (oneC l)):=by
 have i:=SetC.oneC l;generalize C:oneC l=R at *
 unfold oneC at C;refine qSU call166 func166 rfl ?_;have g:zs.length=64:=rfl;refine qh.upK l.length (fun k st=>∃ a:Int,st.tm 0=lI l/\st.tm 2 = .ptr 0 0/\st.tm 3 = .ptr 1 0/\st.tm 4=aI a/\st.tm 5=aI k/\st.mu=[.arr (aI 0 :: zs),.arr (aI l.length :: zs)]/\atF a (l.drop k)=atF 0 l) ?_ ?_
 .exact ⟨0,zSi,zSi,zSi,zSi,zSi,by simp[go_sem,zs,zp],rfl⟩
 rintro k st hk ⟨a,I,r,U,e4,e5,hm,hI⟩;by_cases J:k<l.length
 .have w1:=zWk k
  rw[zD J]at hI;simp[go_sem,I,e4,e5,hm,J,w1];exact Keep.mk' ⟨_,zS1 I,zS1 r,zS1 U,zSi,zSi,zSi,hI⟩
 have a0:k=l.length:=zOm;subst a0;rw[yR]at hI;have ha:a=atF 0 l:=hI;rw[<-ha]at C;have z1:∀ x:AV,(x :: zs).length=65:=fun x=>rfl
 have o:∀ x:AV,x∈zs->x.one=true:=fun x hx=>by rw[List.eq_of_mem_replicate hx];rfl
 have tk:List.take 64 zs=zs:=rfl;have pc:∀(x y:AV) (Z:List AV),Z.length=64->putCells (x :: zs) 0 (y :: Z)=y :: Z:=fun x y Z hZ=>by
  rw[yq _ _ _ (by simp[hZ,g])];simp[hZ,g,List.drop_of_length_le]
 by_cases h0:0<=a
 .obtain ⟨j,rfl⟩:∃ j:Nat,a=j:=⟨a.toNat,zOm⟩
  by_cases t:(j:Int)<64
  .have hj:1+j<=64:=by omega
   have a1:∀ x:AV,(x :: zs).set (1+j) (AV.sc (Value.bool true))=x :: zs.set j (AV.sc (Value.bool true)):=fun x=>by rw[Nat.add_comm];rfl
   have sl:(zs.set j (AV.sc (Value.bool true))).length=64:=zP1 g;have P:∀ x:AV,x∈zs.set j (AV.sc (Value.bool true))->x.one=true:=fun x hx=>by
    rcases List.mem_or_eq_of_mem_set hx with h|rfl
    .exact o x h
    .rfl
   have T:List.take 64 (zs.set j (AV.sc (Value.bool true)))=zs.set j (AV.sc (Value.bool true)):=zK zOm;have p:R=aI l.length :: zs.set j (AV.sc (Value.bool true)):=by rw[<-C,if_pos ⟨h0,t⟩];rfl
   generalize zs.set j (AV.sc (Value.bool true))=Z at *
   simp[go_sem,I,r,U,e4,e5,hm,h0,t,g,hj,a1,sl,T,pc _ _ _ sl];rw[if_pos P];simp[go_sem,r,sl,T];rw[p]at i⊢;exact .hf _ i.hf
  .simp [go_sem,I,r,U,e4,e5,hm,h0,t,g,tk,pc _ _ _ g]
   rw[if_pos o];simp[go_sem,r,g,tk];have p:R=aI l.length :: zs:=by rw[<-C,zIn]
   rw[p]at i⊢;exact .hf _ i.hf
 .simp [go_sem,I,r,U,e4,e5,hm,h0,g,tk,pc _ _ _ g]
  rw[if_pos o];simp[go_sem,r,g,tk];have p:R=aI l.length :: zs:=by rw[<-C,zIn]
  rw[p]at i⊢;exact .hf _ i.hf
abbrev NS:=List AV×Nat
variable {s:NS}
def stF(nm:ByteArray)(f:Fld)(s:NS):NS:=if f.name=nm then (oneC f.sorts,s.2+1) else s
def nmF(nm:ByteArray):List Fld->NS->NS
 | [],s=>s
 |f :: l,s=>nmF nm l (stF nm f s)
def st1(nm:ByteArray)(i:Nat)(x:ByteArray×Bool)(s:NS):NS:=if x.1=nm then (oneC [(i:Int)],s.2+1) else s
def st2(nm:ByteArray)(i:Nat)(x:ByteArray×Bool)(s:NS):NS:=if x.2=true/\x.1++uH=nm then (oneC [(i:Int)],s.2+1) else s
def st3(nm:ByteArray)(i:Nat)(x:ByteArray×Bool)(s:NS):NS:=if x.2=true/\x.1++uI=nm then (oneC [(i:Int),(i:Int)],s.2+1) else s
def nmS(nm:ByteArray):Nat->List (ByteArray×Bool)->NS->NS
 |_,[],s=>s
 |i,x :: l,s=>nmS nm (i+1) l (st3 nm i x (st2 nm i x (st1 nm i x s)))
def named(ts:TS)(nm:ByteArray):NS:=nmS nm 0 ts.sorts (nmF nm ts.fields (aI 0 :: zs,0))
theorem qiQ{f:Fld}(h:SetC s.1):SetC (stF nm f s).1:=by
 unfold stF;split
 .exact SetC.oneC _
 .exact h
theorem nI(h:SetC s.1):SetC (st1 nm i x s).1:=by
 unfold st1;split
 .exact SetC.oneC _
 .exact h
theorem nJ(h:SetC s.1):SetC (st2 nm i x s).1:=by
 unfold st2;split
 .exact SetC.oneC _
 .exact h
theorem nK(h:SetC s.1):SetC (st3 nm i x s).1:=by
 unfold st3;split
 .exact SetC.oneC _
 .exact h
theorem st_le:(st3 nm i x (st2 nm i x (st1 nm i x s))).2<=s.2+3:=by
 have l:(st1 nm i x s).2<=s.2+1:=by unfold st1;split<;>simp
 have g:∀ s:NS,(st2 nm i x s).2<=s.2+1:=fun s=>by unfold st2;split<;>simp
 have j:∀ s:NS,(st3 nm i x s).2<=s.2+1:=fun s=>by unfold st3;split<;>simp
 have:=g (st1 nm i x s);have:=j (st2 nm i x (st1 nm i x s));omega
theorem nL(nm:ByteArray):∀(l:List Fld) (s:NS),SetC s.1->SetC (nmF nm l s).1
 | [],_,h=>h
 |f :: l,s,h=>nL nm l _ (qiQ h)
theorem nM(nm:ByteArray):∀(l:List (ByteArray×Bool)) (i:Nat) (s:NS),SetC s.1->SetC (nmS nm i l s).1
 | [],_,_,h=>h
 |x :: l,i,s,h=>nM nm l _ _ (nK (nJ (nI h)))
theorem Xf(ts:TS)(nm:ByteArray):SetC (named ts nm).1:=nM nm _ _ _ (nL nm _ _ SetC.zero)
theorem wk1(i:Int):WK (.lst true [rI i]) (lI [i]):=WK.lst fun r g c j=>by
 rw[qN]at g;subst g;rw[qN]at j;subst j;exact HF.sc _
theorem wk2(i j:Int):WK (.lst true [rI i,rI j]) (lI [i,j]):=WK.lst fun r g c l=>by
 rcases qu.1 g with rfl|g
 .rw [qN]at l;subst l;exact HF.sc _
 .rw [qN]at g;subst g
  rw[qN]at l;subst l;exact HF.sc _
structure okNm (ts:TS):Prop where
 so:∀ x,x∈ts.sorts->x.1.size<=4611686018427387904
 nso:ts.sorts.length<=140737488351232
 nf:ts.fields.length<=140737488351232
 fl:∀ f,f∈ts.fields->f.sorts.length<=140737488351232
theorem Xg(ts:TS)(ha:okNm ts)(nm:ByteArray):qd qb 169 [eTS ts,aS nm] (.tup [.agg (named ts nm).1,aI (named ts nm).2]):=by
  generalize hR:named ts nm=R;unfold named at hR;refine qSV call169 func169 rfl ?_;have ar:=ha.nf;have au:zs.length=64:=rfl;have av:=ha.nso;simp[go_sem];refine qh.upK ts.fields.length (fun i st=>∃ s:NS,st.tm 1=aS nm/\st.tm 2 = .ip (cTS ts)/\st.tm 4 = .ptr 0 0/\st.tm 6 = .ptr 1 0/\st.tm 7=aI s.2/\st.tm 8=aI i/\st.mu=[.arr (aI 0 :: zs),.arr s.1]/\SetC s.1/\s.2<=i/\nmS nm 0 ts.sorts (nmF nm (ts.fields.drop i) s)=R) ?_ ?_
  · exact⟨(aI 0 :: zs,0),zSi,zSi,zSi,zSi,zSi,zSi,by simp[go_sem,zs,zp],SetC.zero,zSp,zUs hR⟩
  clear hR;rintro i st hi ⟨⟨c,k⟩,C,t,e4,I,J,e8,hm,j,hk,p⟩;have hk:k<=i:=hk;have j:SetC c:=j;by_cases g:i<ts.fields.length
  · have w1:=zWk i
    have w2:=zWk k;rw[zD g]at p;have ho:=oneU ts.fields[i].sorts (ha.fl _ (qt g));have P:=SetC.oneC ts.fields[i].sorts;by_cases hq:ts.fields[i].name=nm
    · simp[go_sem,C,t,e8,hm,g,hq]
      refine qc.pure ho (.zk (zf _) .nil) ?_;simp[go_sem,I,P.len,j.len,j.put P];rw[if_pos P.one];simp[go_sem,J,e8,g,w1,w2];exact Keep.mk' ⟨(oneC ts.fields[i].sorts,k+1),zS1 C,zS1 t,zS1 e4,zS1 I,zSi,zSi,zSi,P,by show k+1<=i+1;omega,by rw[<-p];simp[nmF,stF,hq]⟩
    · simp[go_sem,C,t,e8,hm,g,jM hq,w1]
      exact Keep.mk' ⟨(c,k),zS1 C,zS1 t,zS1 e4,zS1 I,zS1 J,zSi,zSi,j,by show k<=i+1;omega,by rw[<-p];simp[nmF,stF,hq]⟩
  have a0:i=ts.fields.length:=zOm;subst a0;rw[yR]at p;simp only[nmF]at p;simp[go_sem,t,e8,hm];refine qh.upK ts.sorts.length (fun i st=>∃ s:NS,st.tm 1=aS nm/\st.tm 2 = .ip (cTS ts)/\st.tm 4 = .ptr 0 0/\st.tm 6 = .ptr 1 0/\st.tm 7=aI s.2/\st.tm 9=aI i/\st.mu=[.arr (aI 0 :: zs),.arr s.1]/\SetC s.1/\s.2<=ts.fields.length+3*i/\nmS nm i (ts.sorts.drop i) s=R) ?_ ?_
  · exact⟨(c,k),zS1 C,zS1 t,zS1 e4,zS1 I,zS1 J,zSi,zSi,j,by show k<=_;omega,zUs p⟩
  clear C t e4 I J e8 hm j hk p g;rintro i st hi ⟨⟨c,k⟩,C,t,e4,I,J,e9,hm,j,hk,p⟩;have hk:k<=ts.fields.length+3*i:=hk;have j:SetC c:=j;by_cases g:i<ts.sorts.length
  · have w1:=zWk i
    have w2:=zWk k;have w3:qs.wrap ((k:Int)+1+1)=(k:Int)+1+1:=zWr;have w4:qs.wrap ((k:Int)+1+1+1)=(k:Int)+1+1+1:=zWr;rw[zD g]at p;simp only[nmS]at p;have af:=oneU [(i:Int)] zSp;have ag:=oneU [(i:Int),(i:Int)] zSp;have r:=SetC.oneC [(i:Int)];have T:=SetC.oneC [(i:Int),(i:Int)];have ah:=j.put r;have ai:=j.put T;have aj:=r.put r;have ak:=r.put T;have l1:=r.len;have l2:=T.len;have l0:=j.len;have al:=st_le (nm:=nm) (i:=i) (x:=ts.sorts[i]) (s:=(c,k));have an:=nK (nm:=nm) (i:=i) (x:=ts.sorts[i]) (nJ (nm:=nm) (i:=i) (x:=ts.sorts[i]) (nI (nm:=nm) (i:=i) (x:=ts.sorts[i]) (s:=(c,k)) j));have U:=ha.so _ (qt g);have U:ts.sorts[i].1.size<=4611686018427387904:=U;generalize aa:ts.sorts[i]=so at *
    obtain⟨o,sb⟩:=so;have ab:o.size<=9223372036854775801:=by simp at U;omega
    have ad:o.size<=9223372036854775802:=by simp at U;omega
    generalize hN:st3 nm i (o,sb) (st2 nm i (o,sb) (st1 nm i (o,sb) (c,k)))=N at *
    have ao:(o++uH=nm)=(o++(⟨#[95,102,105,114,115,116]⟩:ByteArray)=nm):=rfl;have aq:(o++uI=nm)=(o++(⟨#[95,110,101,120,116]⟩:ByteArray)=nm):=rfl;simp only[st1,st2,st3,ao,aq]at hN;obtain⟨d1,ae⟩:∃ d,decide (o=nm)=d:=⟨_,rfl⟩;obtain⟨d2,a8⟩:∃ d,decide (o++(⟨#[95,102,105,114,115,116]⟩:ByteArray)=nm)=d:=⟨_,rfl⟩;obtain⟨d3,a9⟩:∃ d,decide (o++(⟨#[95,110,101,120,116]⟩:ByteArray)=nm)=d:=⟨_,rfl⟩;have p1:(o=nm)=(d1=true):=by rw[<-ae];simp
    have p2:(o++(⟨#[95,102,105,114,115,116]⟩:ByteArray)=nm)=(d2=true):=by rw[<-a8];simp
    have p3:(o++(⟨#[95,110,101,120,116]⟩:ByteArray)=nm)=(d3=true):=by rw[<-a9];simp
    simp only[p1,p2,p3]at hN;have done:∀ l:St,l.tm 1=aS nm->l.tm 2 = .ip (cTS ts)->l.tm 4 = .ptr 0 0->l.tm 6 = .ptr 1 0->l.tm 7=aI N.2->l.tm 9=aI (i+1:Nat)->l.mu=[.arr (aI 0 :: zs),.arr N.1] ->
        Keep (fun st=>∃ s:NS,st.tm 1=aS nm/\st.tm 2 = .ip (cTS ts)/\st.tm 4 = .ptr 0 0/\st.tm 6 = .ptr 1 0/\st.tm 7=aI s.2/\st.tm 9=aI (i+1:Nat)/\st.mu=[.arr (aI 0 :: zs),.arr s.1]/\SetC s.1/\s.2<=ts.fields.length+3*(i+1)/\nmS nm (i+1) (ts.sorts.drop (i+1)) s=R) .mk l:=
      fun l a1 a2 a3 a4 a5 a6 a7=>Keep.mk' ⟨N,a1,a2,a3,a4,a5,a6,a7,an,by have:N.2<=k+3:=al;omega,p⟩
    cases d1<;>cases d2<;>cases d3<;>cases sb
    all_goals simp only[if_true,if_false,and_false,and_true,reduceCtorEq]at hN
    all_goals simp[go_sem,Y10.kO,C,t,e9,hm,g,aa,ae,a8,a9,w1,ab,ad]
    all_goals repeat' (first
      | (refine qc.pure af (.cons (wk1 _) .nil) ?_
         simp[go_sem,I,ah,aj,l0,l1];rw[if_pos r.one];simp[go_sem,Y10.kO,C,t,J,e9,g,aa,a8,a9,w1,w2,w3,ab,ad])
      | (refine qc.pure ag (.cons (wk2 _ _) .nil) ?_
         simp[go_sem,I,ai,ak,l0,l1,l2];rw[if_pos T.one];simp[go_sem,J,e9,g,w1,w2,w3,w4]))
    all_goals try subst hN
    all_goals try exact done _ (zS1 C) (zS1 t) (zS1 e4) (zS1 I) (zS1 J) zSi zSi
  have a0:i=ts.sorts.length:=zOm;subst a0;rw[yR]at p;simp only[nmS]at p;subst p;simp[go_sem,t,e4,I,J,e9,hm,j.len,j.take,SetC.zero.put j,SetC.zero.len];rw[if_pos j.one];simp[go_sem,e4,j.len,j.take];refine .hf _ (HF.tup fun x hx=>?_);rcases qu.1 hx with rfl|hx
  · exact j.hf
  · rw[qN]at hx;subst hx;exact HF.sc _
end
end QD
namespace QE
open Y6 QD
abbrev RS:=Int×(Nat->Bool)
def hB(g:Nat->Bool):List AV:=(qo 64).map fun i=>aB (g i)
abbrev cRS(s:RS):List AV:=aI s.1 :: hB s.2
abbrev eRS(s:RS):AV := .agg (cRS s)
theorem qm(g:Nat->Bool):(hB g).length=64:=by simp[hB]
theorem nN(g:Nat->Bool)(i:Nat)(v:Bool):(hB g).set i (aB v)=hB fun j=>if j=i then v else g j:=by
 refine List.ext_getElem (by simp[hB]) fun j l o=>?_
 rw[List.getElem_set];simp only[hB,List.getElem_map,List.getElem_range];by_cases h:i=j
 .rw [if_pos h,if_pos h.symm]
 .rw [if_neg h,if_neg (fun e=>h e.symm)]
theorem qiR(g:Nat->Bool)(i:Nat)(h:i<64):(hB g)[i]?=some (aB (g i)):=by
 simp[hB,h]
theorem vy{g i:Nat->Bool}(h:∀ j,j<64->g j=i j):hB g=hB i:=by
 refine List.map_congr_left fun j l=>?_
 rw[h j (yj.1 l)]
theorem setC(s:RS):SetC (cRS s):=⟨by simp[hB],fun x g=>by
 rcases qu.1 g with rfl|g
 .exact ⟨rfl,HF.sc _⟩
 .obtain ⟨j,_,rfl⟩:=qk.1 g
  exact⟨rfl,HF.sc _⟩⟩
theorem zT(s:RS):HF (eRS s):=(setC s).hf
theorem nO:hB (fun _=>false)=zs:=rfl
def oneS(l:List Int):RS:=(l.length,fun j=>decide ((j:Int)=atF 0 l))
theorem Xh(l:List Int):oneC l=cRS (oneS l):=by
 unfold oneC oneS;simp only[cRS];split
 .rename_i h
  have e:aB true=aB true:=rfl;rw[<-nO,nN];congr 1;refine vy fun j i=>?_
  by_cases g:j=(atF 0 l).toNat
  .rw [if_pos g];exact(decide_eq_true zOm).symm
  .rw [if_neg g];exact(decide_eq_false zOm).symm
 .rename_i h
  rw[<-nO];congr 1;refine vy fun j i=>?_
  exact(decide_eq_false zOm).symm
def szA(k:Int):Nat:=if k<1 then 1 else if k=1 then 4 else if k=2 then 16 else 64
theorem Ys(k:Int):szA k<=64/\1<=szA k:=by unfold szA;split<;>(try split)<;>(try split)<;>omega
theorem VC(k:Int):qd qb 237 [aI k] (aI (szA k)):=by
 refine qSV call237 func237 rfl ?_;unfold szA;by_cases g:k<1
 .simp [go_sem,g];exact .zsc _
 by_cases i:k=1
 .simp [go_sem,i];exact .zsc _
 by_cases j:k=2
 .simp [go_sem,j];exact .zsc _
 simp[go_sem,g,i,j];exact .zsc _
def uniS(a b:RS):RS:=(a.1,fun j=>a.2 j||b.2 j)
def intS(a b:RS):RS:=(a.1,fun j=>a.2 j&&b.2 j)
theorem g1(x:AV)(g:Nat->Bool)(i:Nat)(h:i<64):(x :: hB g)[1+i]?=some (aB (g i)):=by
 rw[Nat.add_comm,List.getElem?_cons_succ,qiR g i h]
theorem d1(x:AV)(g:Nat->Bool)(i:Nat)(h:i<64):List.take 1 (List.drop (1+i) (x :: hB g))=[aB (g i)]:=by
 rw[Nat.add_comm,List.drop_succ_cons,zD (by rw[qm];exact h)];simp[hB]
theorem d0(g:Nat->Bool)(i:Nat)(h:i<64):List.take 1 (List.drop i (hB g))=[aB (g i)]:=by
 rw[zD (by rw[qm];exact h)];simp[hB]
theorem s1(x:AV)(g:Nat->Bool)(i:Nat)(v:Bool):(x :: hB g).set (1+i) (aB v)=x :: hB fun j=>if j=i then v else g j:=by
 rw[Nat.add_comm,List.set_cons_succ,nN]
theorem qQ(g:Nat->Bool):∀ x:AV,x∈hB g->x.one=true:=fun x i=>by
 obtain⟨j,_,rfl⟩:=qk.1 i;rfl
theorem tk(g:Nat->Bool):List.take 64 (hB g)=hB g:=zK (by rw[qm];exact qn _)
theorem pc(x y:AV)(g i:Nat->Bool):putCells (x :: hB g) 0 (y :: hB i)=y :: hB i:=by
 rw[yq _ _ _ (by simp[qm])];simp[qm,List.drop_of_length_le]
theorem vo(a b:RS):qd qb 201 [eRS a,eRS b] (eRS (uniS a b)):=by
 refine qSQ call201 func201 rfl { mt:=[2] } ?_;simp[go_sem];refine⟨qQ _,qQ _,?_⟩;refine qh.upK 64 (fun i st=>st.tm 2 = .ptr 0 0/\st.tm 3 = .ip (cRS b)/\st.tm 4 = .ptr 1 0/\st.tm 5=aI i/\st.mu=[.arr (aI a.1 :: hB (fun j=>if j<i then a.2 j||b.2 j else a.2 j)),.arr (aI 0 :: hB fun _=>false)]) ?_ ?_
 .exact ⟨zSi,zSi,zSi,zSi,by simp[go_sem];rfl⟩
 rintro i st hi ⟨p,I,C,J,P⟩;by_cases l:i<64
 .have o:(i:Int)<64:=by omega
  have r:1+i<=64:=zOm;have w1:=zWk i;generalize hG:(fun j=>if j<i then a.2 j||b.2 j else a.2 j)=G at *
  have R:G i=a.2 i:=by rw[<-hG];simp
  have g:∀ v:Bool,v=(a.2 i||b.2 i)->(aI a.1 :: hB G).set (1+i) (aB v)=aI a.1 :: hB (fun j=>if j<i+1 then a.2 j||b.2 j else a.2 j):=fun v hv=>by
   rw[s1];congr 2;funext j;rw[<-hG,hv];by_cases T:j=i
   .subst T;simp
   .by_cases h2:j<i
    .simp [T,h2,show j<i+1 by omega]
    .simp [T,h2,show ¬j<i+1 by omega]
  have t:=d1 (aI a.1) G i l;have m2:=d0 b.2 i l;have U:1<=64-i:=zOm;rw[R]at t;cases ha:a.2 i with
  |true =>
   rw[ha]at t g;have hn:=g true zSp;simp[go_sem,p,J,P,l,o,r,qm,t,hn,w1];exact Keep.mk' ⟨zS1 p,zS1 I,zS1 C,zSi,zSi⟩
  |false =>
   rw[ha]at t g;have hn:=g (b.2 i) zSp;simp[go_sem,p,I,J,P,l,o,r,U,qm,t,m2,hn,w1];exact Keep.mk' ⟨zS1 p,zS1 I,zS1 C,zSi,zSi⟩
 .have a0:i=64:=by omega
  subst a0;simp[go_sem,p,C,J,P,qm,tk,pc];rw[if_pos (qQ _)];simp[go_sem,C,qm,tk];have e:(aI a.1 :: hB fun j=>if j<64 then a.2 j||b.2 j else a.2 j)=cRS (uniS a b):=by
   exact congrArg (aI a.1 :: ·) (vy fun j hj=>if_pos hj)
  rw[e];exact .hf _ (zT _)
theorem nP(a b:RS):qd qb 202 [eRS a,eRS b] (eRS (intS a b)):=by
 refine qSQ call202 func202 rfl { mt:=[2] } ?_;simp[go_sem];refine⟨qQ _,qQ _,?_⟩;refine qh.upK 64 (fun i st=>st.tm 2 = .ptr 0 0/\st.tm 3 = .ip (cRS b)/\st.tm 4 = .ptr 1 0/\st.tm 5=aI i/\st.mu=[.arr (aI a.1 :: hB (fun j=>if j<i then a.2 j&&b.2 j else a.2 j)),.arr (aI 0 :: hB fun _=>false)]) ?_ ?_
 .exact ⟨zSi,zSi,zSi,zSi,by simp[go_sem];rfl⟩
 rintro i st hi ⟨p,I,C,J,P⟩;by_cases l:i<64
 .have o:(i:Int)<64:=by omega
  have r:1+i<=64:=zOm;have w1:=zWk i;generalize hG:(fun j=>if j<i then a.2 j&&b.2 j else a.2 j)=G at *
  have R:G i=a.2 i:=by rw[<-hG];simp
  have g:∀ v:Bool,v=(a.2 i&&b.2 i)->(aI a.1 :: hB G).set (1+i) (aB v)=aI a.1 :: hB (fun j=>if j<i+1 then a.2 j&&b.2 j else a.2 j):=fun v hv=>by
   rw[s1];congr 2;funext j;rw[<-hG,hv];by_cases T:j=i
   .subst T;simp
   .by_cases h2:j<i
    .simp [T,h2,show j<i+1 by omega]
    .simp [T,h2,show ¬j<i+1 by omega]
  have t:=d1 (aI a.1) G i l;have m2:=d0 b.2 i l;have U:1<=64-i:=zOm;rw[R]at t;cases ha:a.2 i with
  |false =>
   rw[ha]at t g;have hn:=g false zSp;simp[go_sem,p,J,P,l,o,r,qm,t,hn,w1];exact Keep.mk' ⟨zS1 p,zS1 I,zS1 C,zSi,zSi⟩
  |true =>
   rw[ha]at t g;have hn:=g (b.2 i) zSp;simp[go_sem,p,I,J,P,l,o,r,U,qm,t,m2,hn,w1];exact Keep.mk' ⟨zS1 p,zS1 I,zS1 C,zSi,zSi⟩
 .have a0:i=64:=by omega
  subst a0;simp[go_sem,p,C,J,P,qm,tk,pc];rw[if_pos (qQ _)];simp[go_sem,C,qm,tk];have e:(aI a.1 :: hB fun j=>if j<64 then a.2 j&&b.2 j else a.2 j)=cRS (intS a b):=by
   exact congrArg (aI a.1 :: ·) (vy fun j hj=>if_pos hj)
  rw[e];exact .hf _ (zT _)
def trS(a:RS):RS:=(2,fun j=>decide (j<16)&&a.2 (j % 4*4+j / 4))
theorem nQ(a:RS):qd qb 205 [eRS a] (eRS (trS a)):=by
 refine qSU call205 func205 rfl ?_;refine⟨qQ _,?_⟩;refine qh.upK 16 (fun i st=>st.tm 1 = .ip (cRS a)/\st.tm 2 = .ptr 0 0/\st.tm 3 = .ptr 1 0/\st.tm 4=aI i/\st.mu=[.arr (aI 0 :: hB fun _=>false),.arr (aI 2 :: hB (fun j=>decide (j<16/\j % 4*4+j / 4<i)&&a.2 (j % 4*4+j / 4)))]) ?_ ?_
 .exact ⟨zSi,zSi,zSi,zSi,by simp[go_sem];first|rfl|exact⟨rfl,rfl⟩⟩
 rintro i st hi ⟨R,o,p,U,r⟩;by_cases t:i<16
 .have l:(i:Int)<16:=by omega
  have w1:=zWk i;obtain⟨q,hq⟩:∃ q:Nat,q=i % 4*4+i / 4:=⟨_,rfl⟩;have a0:q<16:=zOm;have w2:qs.wrap ((i:Int).tmod 4)=((i % 4:Nat):Int):=by
   rw[u3 zOm];rw[zWr];omega
  have w3:qs.wrap (qs.wrap ((i:Int).tmod 4*4)+qs.wrap ((i:Int) / 4))=(q:Int):=by
   have x1:qs.wrap ((i:Int) % 4*4)=(i:Int) % 4*4:=zWr;have x2:qs.wrap ((i:Int) / 4)=(i:Int) / 4:=zWr;rw[u3 zOm,x1,x2,zWr];omega
  generalize hG:(fun j=>decide (j<16/\j % 4*4+j / 4<i)&&a.2 (j % 4*4+j / 4))=G at *
  have g:(aI 2 :: hB G).set (1+q) (aB (a.2 i))=aI 2 :: hB (fun j=>decide (j<16/\j % 4*4+j / 4<i+1)&&a.2 (j % 4*4+j / 4)):=by
   rw[s1];refine congrArg (aI 2 :: ·) (vy fun j hj=>?_);rw[<-hG];by_cases C:j=q
   .have h2:j % 4*4+j / 4=i:=by omega
    rw[if_pos C,h2,decide_eq_true ⟨zOm,zOm⟩];rfl
   .have h2:¬(j<16/\j % 4*4+j / 4=i):=fun h=>C zOm
    rw[if_neg C];have h3:(j<16/\j % 4*4+j / 4<i+1)=(j<16/\j % 4*4+j / 4<i):=propext ⟨fun h=>⟨h.1,zOm⟩,fun h=>⟨h.1,zOm⟩⟩;rw[show decide (j<16/\j % 4*4+j / 4<i+1)=decide (j<16/\j % 4*4+j / 4<i) from decide_eq_decide.2 (by rw[h3])]
  have m2:=d0 a.2 i zOm;have I:(i:Int)<64:=zOm;have J:1<=64-i:=zOm;simp[go_sem,R,p,U,r,t,l,I,J,m2,qm,w1,w3,show (q:Int)<64 by omega,show 1+q<=64 by omega,g];exact Keep.mk' ⟨zS1 R,zS1 o,zS1 p,zSi,zSi⟩
 .have P:i=16:=by omega
  subst P;have e:hB (fun j=>decide (j<16/\j % 4*4+j / 4<16)&&a.2 (j % 4*4+j / 4))=hB (trS a).2:=by
   refine vy fun j hj=>?_
   rw[show decide (j<16/\j % 4*4+j / 4<16)=decide (j<16) from decide_eq_decide.2 ⟨fun h=>h.1,fun h=>⟨h,zOm⟩⟩];rfl
  rw[e]at r;have hT:eRS (trS a) = .agg (aI 2 :: hB (trS a).2):=rfl;rw[hT];generalize (trS a).2=T at *
  simp[go_sem,o,p,U,r,qm,tk,pc];rw[if_pos (qQ _)];simp[go_sem,o,qm,tk];exact .hf _ (zT (2,T))
def wm(a b:RS)(j:Nat):Bool:=a.2 (j / szA b.1)&&b.2 (j % szA b.1)
def Xi(a b:RS):RS:=(a.1+b.1,fun j=>decide (j<szA a.1*szA b.1)&&wm a b j)
theorem qiS(f:Nat->Bool)(p:Nat)(v:Bool)(i:v=f p):∀ j,(if j=p then v else decide (j<p)&&f j)=(decide (j<p+1)&&f j):=fun j=>by
 by_cases g:j=p
 .subst g;simp[i]
 .rw [if_neg g,show decide (j<p+1)=decide (j<p) from decide_eq_decide.2 zOm]
theorem nR(a b:RS)(ha:0<=a.1/\a.1<=1000)(hb:0<=b.1/\b.1<=1000):qd qb 204 [eRS a,eRS b] (eRS (Xi a b)):=by
 refine qSV call204 func204 rfl ?_;have w0:qs.wrap (a.1+b.1)=a.1+b.1:=zWr;have af:=Ys a.1;have ag:=Ys b.1;have ca:=VC a.1;have cb:=VC b.1;have hf:∀ j,wm a b j=(a.2 (j / szA b.1)&&b.2 (j % szA b.1)):=fun _=>rfl
 simp[go_sem,qm];refine⟨qQ _,qQ _,?_⟩;simp[go_sem,w0];refine qc.pure cb (.zs .nil) ?_;generalize hE:Xi a b=E;have a9:E=(a.1+b.1,fun j=>decide (j<szA a.1*szA b.1)&&wm a b j):=hE.symm;clear hE;generalize wm a b=F at *
 generalize szA a.1=sa at *
 generalize szA b.1=n at *
 simp[go_sem];refine qh.upK sa (fun i st=>st.tm 2 = .ip (cRS a)/\st.tm 3 = .ip (cRS b)/\st.tm 4 = .ptr 0 0/\st.tm 5 = .ptr 1 0/\st.tm 6=aI n/\st.tm 7=aI i/\st.mu=[.arr (aI 0 :: hB fun _=>false),.arr (aI (a.1+b.1) :: hB (fun j=>decide (j<i*n)&&F j))]) ?_ ?_
 .exact ⟨zSi,zSi,zSi,zSi,zSi,zSi,by simp[go_sem];first|rfl|exact⟨rfl,rfl⟩⟩
 rintro i st hi ⟨l,C,J,P,o,r,R⟩;simp[go_sem,l,r,R];refine qc.pure ca (.zs .nil) ?_;by_cases a6:i<sa
 .have w1:=zWk i
  simp[go_sem,a6];refine qh.upK n (fun k st=>st.tm 2 = .ip (cRS a)/\st.tm 3 = .ip (cRS b)/\st.tm 4 = .ptr 0 0/\st.tm 5 = .ptr 1 0/\st.tm 6=aI n/\st.tm 7=aI i/\st.tm 8=aI k/\st.mu=[.arr (aI 0 :: hB fun _=>false),.arr (aI (a.1+b.1) :: hB (fun j=>decide (j<i*n+k)&&F j))]) ?_ ?_
  .exact ⟨zS1 l,zS1 C,zS1 J,zS1 P,zS1 o,zS1 r,zSi,zSi⟩
  clear l C J P o r R;rintro k st hk ⟨l,C,J,P,o,r,e8,R⟩;by_cases t:k<n
  .have w2:=zWk k
   obtain⟨p,hp⟩:∃ p:Nat,p=i*n+k:=⟨_,rfl⟩;have a7:((i:Int)*n+k)=(p:Int):=by rw[hp];push_cast;rfl
   have ah:i*n<=63*64:=Nat.mul_le_mul zOm zOm;have w3:qs.wrap ((i:Int)*n)=(i:Int)*n:=by
    have:((i*n:Nat):Int)=(i:Int)*n:=by push_cast;rfl
    rw[<-this];exact zWr
   have w4:qs.wrap (p:Int)=(p:Int):=zWr;have a2:F p=(a.2 i&&b.2 k):=by
    rw[hf,hp,Nat.add_comm,Nat.add_mul_div_right _ _ zOm,Nat.add_mul_mod_self_right,Nat.div_eq_of_lt t,Nat.mod_eq_of_lt t,yc]
   have m1:=d0 a.2 i zOm;have m2:=d0 b.2 k zOm;have U:1<=64-i:=zOm;have a3:1<=64-k:=zOm;have a0:(i:Int)<64:=zOm;have a4:(k:Int)<64:=zOm;have hq:∀ x:AV,(x :: hB (fun j=>decide (j<p)&&F j)).set (1+p) (aB true)=x :: hB (fun j=>if j=p then true else decide (j<p)&&F j):=fun x=>s1 x _ p true
   rw[<-hp]at R;have aa:F p=true->(fun j=>if j=p then true else decide (j<p)&&F j)=(fun j=>decide (j<p+1)&&F j):=fun h=>funext (qiS F p true h.symm)
   have ab:F p=true->∀ x:AV,(x :: hB (fun j=>decide (j<p)&&F j)).set (1+p) (AV.sc (Value.bool true))=x :: hB (fun j=>decide (j<p+1)&&F j):=fun h x=>by rw[<-aa h];exact hq x
   have a5:(F p=false\/64<=p)->hB (fun j=>decide (j<p)&&F j)=hB (fun j=>decide (j<p+1)&&F j):=fun h=>vy fun j hj=>by
    by_cases h1:j=p
    .rcases h with h|h
     .rw [h1,h];simp
     .omega
    .rw [show decide (j<p+1)=decide (j<p) from decide_eq_decide.2 zOm]
   have done:∀ g:St,g.tm 2 = .ip (cRS a)->g.tm 3 = .ip (cRS b)->g.tm 4 = .ptr 0 0->g.tm 5 = .ptr 1 0->g.tm 6=aI n->g.tm 7=aI i->g.tm 8=aI (k+1:Nat)->g.mu=[.arr (aI 0 :: hB fun _=>false),.arr (aI (a.1+b.1) :: hB (fun j=>decide (j<p+1)&&F j))]->Keep (fun st=>st.tm 2 = .ip (cRS a)/\st.tm 3 = .ip (cRS b)/\st.tm 4 = .ptr 0 0/\st.tm 5 = .ptr 1 0/\st.tm 6=aI n/\st.tm 7=aI i/\st.tm 8=aI (k+1:Nat)/\st.mu=[.arr (aI 0 :: hB fun _=>false),.arr (aI (a.1+b.1) :: hB (fun j=>decide (j<i*n+(k+1))&&F j))]) .mk g:=
    fun g b1 b2 b3 b4 b5 b6 b7 b8=>Keep.mk' ⟨b1,b2,b3,b4,b5,b6,b7,by rw[b8,hp];rfl⟩
   cases I:a.2 i with
   |false =>
    rw[I]at m1;simp[go_sem,l,o,r,e8,R,t,qm,m1,U,a0,w2];exact done _ (zS1 l) (zS1 C) (zS1 J) (zS1 P) (zS1 o) (zS1 r) zSi (by simp[go_sem,a5 (.inl (by rw[a2,I];rfl))])
   |true =>
    rw[I]at m1;cases a1:b.2 k with
    |false =>
     rw[a1]at m2;simp[go_sem,l,C,o,r,e8,R,t,qm,m1,m2,U,a3,a0,a4,w2];exact done _ (zS1 l) (zS1 C) (zS1 J) (zS1 P) (zS1 o) (zS1 r) zSi (by simp[go_sem,a5 (.inl (by rw[a2,I,a1];rfl))])
    |true =>
     rw[a1]at m2;by_cases a8:(p:Int)<64
     .simp [go_sem,l,C,P,o,r,e8,R,t,qm,m1,m2,U,a3,a0,a4,w2,w3,a7,w4,a8,show 1+p<=64 by omega,ab (by rw[a2,I,a1];rfl)]
      exact done _ (zS1 l) (zS1 C) (zS1 J) (zS1 P) (zS1 o) (zS1 r) zSi zSi
     .simp [go_sem,l,C,o,r,e8,R,t,qm,m1,m2,U,a3,a0,a4,w2,w3,a7,w4,a8]
      exact done _ (zS1 l) (zS1 C) (zS1 J) (zS1 P) (zS1 o) (zS1 r) zSi (by simp[go_sem,a5 (.inr zOm)])
  .have ad:k=n:=by omega
   subst ad;rw[show i*k+k=(i+1)*k by rw[Nat.add_mul,Nat.one_mul]]at R;simp[go_sem,o,r,e8,R,w1];exact⟨a6,Keep.mk' ⟨zS1 l,zS1 C,zS1 J,zS1 P,zS1 o,zSi,zSi⟩⟩
 .have ae:i=sa:=by omega
  subst ae;rw[a9];generalize (fun j=>decide (j<i*n)&&F j)=T at *
  simp[go_sem,J,P,qm,tk,pc];rw[if_pos (qQ _)];simp[go_sem,J,qm,tk];exact .hf _ (zT (_,T))
def rowJ(a b:RS)(i g j:Nat):Bool:=(qo g).any fun k=>decide (i / 4*(szA b.1 / 4)+k % (szA b.1 / 4)=j)&&(decide (i % 4=k / (szA b.1 / 4))&&(a.2 i&&b.2 k))
def Qb(a b:RS):RS:=(a.1+b.1-2,fun j=>(qo (szA a.1)).any fun i=>rowJ a b i (szA b.1) j)
theorem qiT(a b:RS)(i k j:Nat):rowJ a b i (k+1) j=(rowJ a b i k j||(decide (i / 4*(szA b.1 / 4)+k % (szA b.1 / 4)=j)&&(decide (i % 4=k / (szA b.1 / 4))&&(a.2 i&&b.2 k)))):=by
 unfold rowJ;rw[List.range_succ,List.any_append];simp
theorem qiU{k:Int}(h:1<=k):4<=szA k:=by unfold szA;split<;>(try split)<;>(try split)<;>omega
theorem VD(a b:RS)(ha:0<=a.1/\a.1<=1000)(hb:1<=b.1/\b.1<=1000):qd qb 203 [eRS a,eRS b] (eRS (Qb a b)):=by
 refine qSV call203 func203 rfl ?_;have w0:qs.wrap (a.1+b.1)=a.1+b.1:=zWr;have aa:qs.wrap (a.1+b.1-2)=a.1+b.1-2:=zWr;have ai:=Ys a.1;have aj:=Ys b.1;have ak:=qiU hb.1;have ca:=VC a.1;have cb:=VC b.1;have hR:∀ i k j,rowJ a b i (k+1) j=(rowJ a b i k j||(decide (i / 4*(szA b.1 / 4)+k % (szA b.1 / 4)=j)&&(decide (i % 4=k / (szA b.1 / 4))&&(a.2 i&&b.2 k)))):=qiT a b;have ab:∀ i j,rowJ a b i 0 j=false:=fun i j=>rfl
 simp[go_sem,qm];refine⟨qQ _,qQ _,?_⟩;simp[go_sem,w0,aa];refine qc.pure cb (.zs .nil) ?_;generalize hE:Qb a b=E;have ad:E=(a.1+b.1-2,fun j=>(qo (szA a.1)).any fun i=>rowJ a b i (szA b.1) j):=hE.symm;clear hE;generalize rowJ a b=F at *
 generalize szA a.1=sa at *
 generalize szA b.1=sb at *
 obtain⟨n,hn⟩:∃ n:Nat,n=sb / 4:=⟨_,rfl⟩;have al:1<=n/\n<=16:=zOm;have wn:qs.wrap ((sb:Int) / 4)=(n:Int):=by rw[zWr];omega
 rw[<-hn]at hR;simp[go_sem,wn];refine qh.upK sa (fun i st=>st.tm 2 = .ip (cRS a)/\st.tm 3 = .ip (cRS b)/\st.tm 4 = .ptr 0 0/\st.tm 5 = .ptr 1 0/\st.tm 6=aI n/\st.tm 7=aI i/\st.mu=[.arr (aI 0 :: hB fun _=>false),.arr (aI (a.1+b.1-2) :: hB (fun j=>(qo i).any fun i=>F i sb j))]) ?_ ?_
 .exact ⟨zSi,zSi,zSi,zSi,zSi,zSi,by simp[go_sem];first|rfl|exact⟨rfl,rfl⟩⟩
 rintro i st hi ⟨l,r,C,I,t,o,hm⟩;simp[go_sem,l,o,hm];refine qc.pure ca (.zs .nil) ?_;by_cases a8:i<sa
 .have w1:=zWk i
  generalize hP:(fun j=>(qo i).any fun i=>F i sb j)=P at *
  simp[go_sem,a8];refine qh.upK sb (fun k st=>st.tm 2 = .ip (cRS a)/\st.tm 3 = .ip (cRS b)/\st.tm 4 = .ptr 0 0/\st.tm 5 = .ptr 1 0/\st.tm 6=aI n/\st.tm 7=aI i/\st.tm 8=aI k/\st.mu=[.arr (aI 0 :: hB fun _=>false),.arr (aI (a.1+b.1-2) :: hB (fun j=>P j||F i k j))]) ?_ ?_
  .exact ⟨zS1 l,zS1 r,zS1 C,zS1 I,zS1 t,zS1 o,zSi,zS1 ab⟩
  clear l r C I t o hm;rintro k st hk ⟨l,r,C,I,t,o,e8,hm⟩;simp[go_sem,r,e8,hm];refine qc.pure cb (.zs .nil) ?_;by_cases J:k<sb
  .have w2:=zWk k
   obtain⟨p,hp⟩:∃ p:Nat,p=i / 4*n+k % n:=⟨_,rfl⟩;have an:k % n<n:=Nat.mod_lt _ zOm;have ao:i / 4*n<=15*16:=Nat.mul_le_mul zOm zOm;have y1:((i / 4:Nat):Int)=(i:Int) / 4:=zOm;have y2:((i / 4*n:Nat):Int)=(i:Int) / 4*n:=by rw[<-y1];push_cast;rfl
   have y3:((k % n:Nat):Int)=(k:Int) % n:=rfl;have y4:((k / n:Nat):Int)=(k:Int) / n:=rfl;have ae:k / n<=64:=zV (Nat.div_le_self k n) zOm;have x1:qs.wrap ((i:Int) / 4)=(i:Int) / 4:=zWr;have x2:qs.wrap ((i:Int) / 4*n)=(i:Int) / 4*n:=by rw[<-y2];exact zWr
   have x4:qs.wrap ((i:Int) / 4*n+(k:Int) % n)=(p:Int):=by rw[<-y2,<-y3,zWr,hp];push_cast;rfl
   have a7:qs.wrap ((i:Int) / 4*n+(k:Int).tmod n)=(p:Int):=by rw[u3 zOm];exact x4
   have x5:qs.wrap ((k:Int) / n)=(k:Int) / n:=by
    rw[<-y4];clear y4;generalize k / n=c at ae⊢;exact zWr
   have R:¬n=0:=zOm;have m1:=d0 a.2 i zOm;have m2:=d0 b.2 k zOm;have U:1<=64-i:=zOm;have a1:1<=64-k:=zOm;have a0:(i:Int)<64:=zOm;have a2:(k:Int)<64:=zOm;have a3:((decide (i % 4=k / n)&&(a.2 i&&b.2 k))=false\/64<=p)->hB (fun j=>P j||F i k j)=hB (fun j=>P j||F i (k+1) j):=fun h=>vy fun j hj=>by
    rw[hR,<-hp];rcases h with h|h
    .rw [h,Bool.and_false,Bool.or_false]
    .rw [decide_eq_false zOm,Bool.false_and,Bool.or_false]
   have af:(decide (i % 4=k / n)&&(a.2 i&&b.2 k))=true->∀ x:AV,(x :: hB (fun j=>P j||F i k j)).set (1+p) (AV.sc (Value.bool true))=x :: hB (fun j=>P j||F i (k+1) j):=fun h x=>by
    refine(s1 x _ p true).trans (congrArg (x :: ·) (vy fun j hj=>?_));rw[hR,<-hp,h,Bool.and_true];by_cases h1:j=p
    .rw [if_pos h1,h1];simp
    .rw [if_neg h1,decide_eq_false (fun e=>h1 e.symm),Bool.or_false]
   have done:∀ g:St,g.tm 2 = .ip (cRS a)->g.tm 3 = .ip (cRS b)->g.tm 4 = .ptr 0 0->g.tm 5 = .ptr 1 0->g.tm 6=aI n->g.tm 7=aI i->g.tm 8=aI (k+1:Nat)->g.mu=[.arr (aI 0 :: hB fun _=>false),.arr (aI (a.1+b.1-2) :: hB (fun j=>P j||F i (k+1) j))]->Keep (fun st=>st.tm 2 = .ip (cRS a)/\st.tm 3 = .ip (cRS b)/\st.tm 4 = .ptr 0 0/\st.tm 5 = .ptr 1 0/\st.tm 6=aI n/\st.tm 7=aI i/\st.tm 8=aI (k+1:Nat)/\st.mu=[.arr (aI 0 :: hB fun _=>false),.arr (aI (a.1+b.1-2) :: hB (fun j=>P j||F i (k+1) j))]) .mk g:=
    fun g b1 b2 b3 b4 b5 b6 b7 b8=>Keep.mk' ⟨b1,b2,b3,b4,b5,b6,b7,b8⟩
   cases a4:a.2 i with
   |false =>
    rw[a4]at m1;simp[go_sem,l,t,o,e8,J,qm,x1,x2,R,m1,U,a0,w2];exact done _ (zS1 l) (zS1 r) (zS1 C) (zS1 I) (zS1 t) (zS1 o) zSi (by simp[go_sem,a3 (.inl (by rw[a4];simp))])
   |true =>
    rw[a4]at m1;cases a5:b.2 k with
    |false =>
     rw[a5]at m2;simp[go_sem,l,r,t,o,e8,J,qm,x1,x2,R,m1,m2,U,a0,a1,a2,w2];exact done _ (zS1 l) (zS1 r) (zS1 C) (zS1 I) (zS1 t) (zS1 o) zSi (by simp[go_sem,a3 (.inl (by rw[a5];simp))])
    |true =>
     rw[a5]at m2;by_cases hq:i % 4=k / n
     .have a6:(i:Int).tmod 4=(k:Int) / n:=by rw[u3 zOm,<-y4,<-hq];rfl
      by_cases a9:(p:Int)<64
      .simp [go_sem,l,r,I,t,o,e8,J,qm,x1,x2,a7,x5,R,m1,m2,U,a0,a1,a2,w2,a6,a9,show 1+p<=64 by omega,af (by rw[decide_eq_true hq,a4,a5];rfl)]
       exact done _ (zS1 l) (zS1 r) (zS1 C) (zS1 I) (zS1 t) (zS1 o) zSi zSi
      .simp [go_sem,l,r,t,o,e8,J,qm,x1,x2,a7,x5,R,m1,m2,U,a0,a1,a2,w2,a6,a9]
       exact done _ (zS1 l) (zS1 r) (zS1 C) (zS1 I) (zS1 t) (zS1 o) zSi (by simp[go_sem,a3 (.inr zOm)])
     .have a6:¬(i:Int).tmod 4=(k:Int) / n:=fun e=>hq (by rw[u3 zOm,<-y4]at e;exact Int.ofNat.inj e)
      simp[go_sem,l,r,t,o,e8,J,qm,x1,x2,a7,x5,R,m1,m2,U,a0,a1,a2,w2,a6];exact done _ (zS1 l) (zS1 r) (zS1 C) (zS1 I) (zS1 t) (zS1 o) zSi (by simp[go_sem,a3 (.inl (by rw[decide_eq_false hq];rfl))])
  .have ag:k=sb:=by omega
   subst ag;simp[go_sem,o,w1];exact⟨a8,Keep.mk' ⟨zS1 l,zS1 r,zS1 C,zS1 I,zS1 t,zSi,by simp[go_sem];rw[<-hP]⟩⟩
 .have ah:i=sa:=by omega
  subst ah;rw[ad];generalize (fun j=>(qo i).any fun i=>F i sb j)=T at *
  simp[go_sem,C,I,qm,tk,pc];rw[if_pos (qQ _)];simp[go_sem,C,qm,tk];exact .hf _ (zT (_,T))
end QE
namespace QF
open Y2 Y3 P1 P2 QD QE
section
variable {p q:Int}{a b:Kd}{l:List Int}{m ns:Nat}
def dig(k:Int)(j:Nat):List Int:=if k=0 then [] else if k=1 then [(j:Int)] else if k=2 then [((j / 4:Nat):Int),((j % 4:Nat):Int)] else [((j / 16:Nat):Int),((j / 4 % 4:Nat):Int),((j % 4:Nat):Int)]
theorem Qc{k:Int}(h:0<=k/\k<=3)(j:Nat):((dig k j).length:Int)=k:=by
 unfold dig;split
 .simp;omega
 .split
  .simp;omega
  .split
   .simp;omega
   .simp;omega
theorem szA1:szA 1=4:=rfl
theorem szA2:szA 2=16:=rfl
theorem szA3:szA 3=64:=rfl
theorem Yt(h:0<=p/\p<=3):p=0\/p=1\/p=2\/p=3:=by omega
theorem nS(g:0<=p)(i:0<=q)(h:p+q<=3){j:Nat}(l:j<szA (p+q)):j / szA q<szA p/\j % szA q<szA q/\dig (p+q) j=dig p (j / szA q)++dig q (j % szA q):=by
 rcases Yt (p:=p) ⟨g,zOm⟩ with rfl|rfl|rfl|rfl<;>rcases Yt (p:=q) ⟨i,zOm⟩ with rfl|rfl|rfl|rfl<;>first | (exfalso;omega)|skip
 all_goals simp[dig,szA]at l⊢
 all_goals omega
theorem Xj(g:0<=p)(j:0<=q)(h:p+q<=3){i k:Nat}(l:i<szA p)(o:k<szA q):i*szA q+k<szA (p+q)/\dig (p+q) (i*szA q+k)=dig p i++dig q k:=by
 rcases Yt (p:=p) ⟨g,zOm⟩ with rfl|rfl|rfl|rfl<;>rcases Yt (p:=q) ⟨j,zOm⟩ with rfl|rfl|rfl|rfl<;>first | (exfalso;omega)|skip
 all_goals simp[dig,szA]at l o⊢
 all_goals omega
theorem Xk(h:0<=p/\p<=3){i j:Nat}(g:i<szA p)(l:j<szA p)(e:dig p i=dig p j):i=j:=by
 rcases Yt h with rfl|rfl|rfl|rfl
 all_goals simp[dig,szA]at g l e
 all_goals omega
theorem nT(h:1<=p/\p<=3){l:List Int}(g:(l.length:Int)=p)(j:∀ x,x∈l->0<=x/\x<4):∃ i,i<szA p/\l=dig p i:=by
 match l,g,j with
 | [],g,_=>simp at g;omega
 | [a],g,j =>
  obtain rfl:p=1:=by simpa using g.symm
  have:=j a zSp;exact⟨a.toNat,by rw[szA1];omega,by simp[dig];omega⟩
 | [a,b],g,j =>
  obtain rfl:p=2:=by simpa using g.symm
  have:=j a zSp;have:=j b zSp;exact⟨(a*4+b).toNat,by rw[szA2];omega,by simp[dig];omega⟩
 | [a,b,c],g,j =>
  obtain rfl:p=3:=by simpa using g.symm
  have:=j a zSp;have:=j b zSp;have:=j c zSp;exact⟨(a*16+b*4+c).toNat,by rw[szA3];omega,by simp[dig];omega⟩
 |a :: b :: c :: d :: l,g,_=>simp at g;omega
theorem Xl{l':List Int}(h:l.length=l'.length)(j:l.length<=3)(e:pad l=pad l'):l=l':=by
 have g:=wo j l.length (qn _);have i:=wo (l:=l') zOm l'.length (qn _);rw[qX]at g i;rw[<-g,<-i,e,h]
theorem Zm{k:Kd}(h:okKd ns k)(g:ns<=4){t:Tp}(j:t∈k.ts):∃ i,i<szA k.ar/\t=pad (dig k.ar i):=by
 obtain⟨l,rfl,o,p⟩:=h.ts t j;obtain⟨i,r,e⟩:=nT h.ar o fun x C=>zW1 (p x C)
 exact⟨i,r,by rw[e]⟩
def qi(k:Kd):RS:=(k.ar,fun j=>decide (j<szA k.ar/\pad (dig k.ar j)∈k.ts))
theorem ya(k:Kd)(j:Nat):(qi k).2 j=true↔j<szA k.ar/\pad (dig k.ar j)∈k.ts:=decide_eq_true_iff
theorem uU{a b:RS}(g:a.1=b.1)(i:∀ j,j<64->a.2 j=b.2 j):eRS a=eRS b:=by
 simp only[eRS,cRS,g,vy i]
theorem Yu(h:a.ar=b.ar):eRS (uniS (qi a) (qi b))=eRS (qi (kSum a b)):=by
 refine uU rfl fun j l=>?_
 rw[vI,ya];show ((qi a).2 j||(qi b).2 j)=true↔j<szA a.ar/\pad (dig a.ar j)∈uni (uni [] a.ts) b.ts;rw[Bool.or_eq_true,ya,ya,<-h,vj,vj];constructor
 .rintro (⟨i,g⟩|⟨i,g⟩)
  .exact ⟨i,.inl (.inr g)⟩
  .exact ⟨i,.inr g⟩
 .rintro ⟨i,(g|g)|g⟩
  .cases g
  .exact .inl ⟨i,g⟩
  .exact .inr ⟨i,g⟩
theorem qiV(h:a.ar=b.ar):eRS (intS (qi a) (qi b))=eRS (qi (Qw a b)):=by
 refine uU rfl fun j o=>?_
 rw[vI,ya];show ((qi a).2 j&&(qi b).2 j)=true↔j<szA a.ar/\pad (dig a.ar j)∈a.ts.filter fun t=>decide (t∈b.ts)
 rw[qq,ya,ya,<-h,List.mem_filter,decide_eq_true_eq];constructor
 .rintro ⟨⟨g,i⟩,_,l⟩;exact⟨g,i,l⟩
 .rintro ⟨g,i,l⟩;exact⟨⟨g,i⟩,g,l⟩
theorem Z4{n:Nat}{a b:List Tp}{t:Tp}:t∈uG n m a b↔∃ x y,x∈a/\y∈b/\conc x n y m 0=t:=by
 unfold uG;rw[vj];simp only[qD,false_or,qk,Prod.exists,Qv];constructor
 .rintro ⟨x,y,⟨g,i⟩,j⟩;exact⟨x,y,g,i,j⟩
 .rintro ⟨x,y,g,i,j⟩;exact⟨x,y,⟨g,i⟩,j⟩
theorem Yc{l':List Int}{n:Nat}(h:l.length=n)(g:l'.length=m)(i:n<=3)(j:m<=3):conc (pad l) n (pad l') m 0=pad (l++l'):=by
 unfold conc;rw[Nat.sub_zero,List.drop_zero,wo zOm n zOm,wo zOm m zOm,<-h,<-g,qX,qX]
theorem qiW(J:okKd ns a)(P:okKd ns b)(o:ns<=4)(R:a.ar+b.ar<=3):eRS (Xi (qi a) (qi b))=eRS (qi (vX a b)):=by
 have a0:=J.ar;have a1:=P.ar;have T:=fun i=>Qc (k:=a.ar) zOm i
 have U:=fun i=>Qc (k:=b.ar) zOm i
 have g:=fun i=>Qc (k:=a.ar+b.ar) zOm i
 refine uU rfl fun j hj=>?_
 rw[vI,ya];show (decide (j<szA a.ar*szA b.ar)&&((qi a).2 (j / szA b.ar)&&(qi b).2 (j % szA b.ar)))=true↔j<szA (a.ar+b.ar)/\pad (dig (a.ar+b.ar) j)∈uG a.ar.toNat b.ar.toNat a.ts b.ts;rw[qq,qq,ya,ya,Z4,decide_eq_true_eq];constructor
 .rintro ⟨_,⟨t,h2⟩,h4,h5⟩
  have l:=Xj (p:=a.ar) (q:=b.ar) zOm zOm R t h4;have hd:j / szA b.ar*szA b.ar+j % szA b.ar=j:=Nat.div_add_mod' j _;rw[hd]at l;refine⟨l.1,_,_,h2,h5,?_⟩;rw[l.2];exact Yc (zW1 (T (j / szA b.ar))) (zW1 (U (j % szA b.ar))) zOm zOm
 .rintro ⟨t,x,y,hx,hy,e⟩
  obtain⟨i,C,rfl⟩:=Zm J o hx;obtain⟨k,r,rfl⟩:=Zm P o hy;rw[Yc (zW1 (T i)) (zW1 (U k)) zOm zOm]at e;have l:=Xj (p:=a.ar) (q:=b.ar) zOm zOm R C r;rw[<-l.2]at e;have e2:=Xl (zW2 (g (i*szA b.ar+k)) (g j)) (zW1 (g (i*szA b.ar+k))) e;have I:=Xk zOm l.1 t e2;have a2:=Ys b.ar;have d1:j / szA b.ar=i:=by rw[<-I,Nat.add_comm,Nat.add_mul_div_right _ _ zOm,Nat.div_eq_of_lt r,yc]
  have d2:j % szA b.ar=k:=by rw[<-I,Nat.add_comm,Nat.add_mul_mod_self_right,Nat.mod_eq_of_lt r]
  rw[d1,d2];refine⟨?_,⟨C,hx⟩,r,hy⟩;rw[<-I]
  calc i*szA b.ar+k<i*szA b.ar+szA b.ar:=by omega
   _=(i+1)*szA b.ar:=by rw[Nat.add_mul,Nat.one_mul]
   _<=szA a.ar*szA b.ar:=Nat.mul_le_mul_right _ C
theorem wZ{n:Nat}{a b:List Tp}{t:Tp}:t∈vW n m a b↔∃ x y,x∈a/\y∈b/\x.getD (n-1) 0=y.getD 0 0/\conc x n y m 1=t:=by
 unfold vW;rw[vj];simp only[qD,false_or,List.mem_filterMap,Prod.exists,Qv];constructor
 .rintro ⟨x,y,⟨i,j⟩,g⟩
  split at g
  .rename_i h;cases g;exact⟨x,y,i,j,h,rfl⟩
  .cases g
 .rintro ⟨x,y,i,j,g,l⟩;exact⟨x,y,⟨i,j⟩,by rw[if_pos g,l]⟩
theorem qiX{u v:List Int}{e f:Int}{n:Nat}(h:u.length+1=n)(g:v.length+1=m)(i:n<=3)(j:m<=3):conc (pad (u++[e])) n (pad ([f]++v)) m 1=pad (u++v):=by
 unfold conc;rw[wo zSo (n-1) zSo,wo zSo m zSo,List.take_append_of_le_length zOm,zK zOm,zK zSo];rfl
theorem nU{k:Nat}(h:k<3):(pad l).getD k 0=l.getD k 0:=by
 match k,h with
 | 0,_=>rfl
 | 1,_=>rfl
 | 2,_=>rfl
theorem qiY(g:0<=p/\p<=2){i:Nat}(j:i<szA (p+1)):i / 4<szA p/\dig (p+1) i=dig p (i / 4)++[((i % 4:Nat):Int)]:=by
 have:=nS (p:=p) (q:=1) g.1 zOm zOm j;rw[szA1]at this;exact⟨this.1,this.2.2⟩
theorem qiZ(g:0<=q/\q<=2){k:Nat}(i:k<szA (1+q)):k % szA q<szA q/\dig (1+q) k=[((k / szA q:Nat):Int)]++dig q (k % szA q):=by
 have:=nS (p:=1) (q:=q) zOm g.1 zOm i;exact⟨this.2.1,this.2.2⟩
theorem qi0(g:0<=q/\q<=2):szA (q+1) / 4=szA q/\szA (q+1)=4*szA q:=by
 rcases (show q=0\/q=1\/q=2 by omega) with rfl|rfl|rfl<;>exact⟨rfl,rfl⟩
theorem nW(ha:okKd ns a)(hb:okKd ns b)(r:ns<=4)(h3:1<=a.ar+b.ar-2/\a.ar+b.ar-2<=3):eRS (Qb (qi a) (qi b))=eRS (qi (zA a b)):=by
 have a0:=ha.ar;have a3:=hb.ar;obtain⟨p,hp⟩:∃ p,p=a.ar-1:=⟨_,rfl⟩;obtain⟨q,hq⟩:∃ q,q=b.ar-1:=⟨_,rfl⟩;have ea:a.ar=p+1:=zOm;have eb:b.ar=1+q:=zOm;have t:b.ar=q+1:=zOm;have C:a.ar+b.ar-2=p+q:=zOm;have I:=qi0 (q:=q) zOm;have hn:szA b.ar / 4=szA q:=by rw[t];exact I.1
 have lp:=fun i=>Qc (k:=p) zOm i
 have lq:=fun i=>Qc (k:=q) zOm i
 have o:=fun i=>Qc (k:=p+q) zOm i
 have A:∀ i,i<szA a.ar->i / 4<szA p/\dig a.ar i=dig p (i / 4)++[((i % 4:Nat):Int)]:=fun i g=>by rw[ea]at g⊢;exact qiY zOm g
 have B:∀ k,k<szA b.ar->k % szA q<szA q/\dig b.ar k=[((k / szA q:Nat):Int)]++dig q (k % szA q):=fun k l=>by rw[eb]at l⊢;exact qiZ zOm l
 have J:∀ i k,i<szA a.ar->k<szA b.ar->i / 4*szA q+k % szA q<szA (p+q)/\(pad (dig a.ar i)).getD (a.ar.toNat-1) 0=((i % 4:Nat):Int)/\(pad (dig b.ar k)).getD 0 0=((k / szA q:Nat):Int)/\conc (pad (dig a.ar i)) a.ar.toNat (pad (dig b.ar k)) b.ar.toNat 1=pad (dig (p+q) (i / 4*szA q+k % szA q)):=fun i k g l=>by
  obtain⟨a1,a2⟩:=A i g;obtain⟨b1,b2⟩:=B k l;have hm:=Xj (p:=p) (q:=q) zOm zOm zOm a1 b1;have l1:=lp (i / 4);have l2:=lq (k % szA q);refine⟨hm.1,?_,?_,?_⟩
  .rw [nU zOm,a2,show a.ar.toNat-1=(dig p (i / 4)).length by omega];simp
  .rw [nU zOm,b2];rfl
  .rw [a2,b2,hm.2];exact qiX zOm zOm zOm zOm
 refine uU rfl fun j hj=>?_
 rw[vI,ya];show ((qo (szA a.ar)).any fun i=>(qo (szA b.ar)).any fun k=>decide (i / 4*(szA b.ar / 4)+k % (szA b.ar / 4)=j)&&(decide (i % 4=k / (szA b.ar / 4))&&((qi a).2 i&&(qi b).2 k)))=true↔j<szA (a.ar+b.ar-2)/\pad (dig (a.ar+b.ar-2) j)∈vW a.ar.toNat b.ar.toNat a.ts b.ts;rw[wZ,List.any_eq_true,hn,C];constructor
 .rintro ⟨i,g,h⟩
  obtain⟨k,l,h⟩:=List.any_eq_true.1 h;rw[yj]at g l;rw[qq,qq,qq,decide_eq_true_eq,decide_eq_true_eq,ya,ya]at h;obtain⟨rfl,P,⟨_,h4⟩,_,h5⟩:=h;obtain⟨R,T,U,j4⟩:=J i k g l;exact⟨R,_,_,h4,h5,by rw[T,U,P],j4⟩
 .rintro ⟨h1,x,y,hx,hy,P,e⟩
  obtain⟨i,g,rfl⟩:=Zm ha r hx;obtain⟨k,l,rfl⟩:=Zm hb r hy;obtain⟨R,T,U,j4⟩:=J i k g l;rw[j4]at e;have e2:=Xl (zW2 (o (i / 4*szA q+k % szA q)) (o j)) (zW1 (o (i / 4*szA q+k % szA q))) e;have e3:=Xk zOm R h1 e2;rw[T,U]at P;refine⟨i,yj.2 g,List.any_eq_true.2 ⟨k,yj.2 l,?_⟩⟩;rw[qq,qq,qq,decide_eq_true_eq,decide_eq_true_eq,ya,ya];exact⟨e3,zOm,⟨g,hx⟩,l,hy⟩
theorem qi1(C:okKd ns a)(g:ns<=4)(l:a.ar=2):eRS (trS (qi a))=eRS (qi (kTr a)):=by
 refine uU rfl fun j J=>?_
 rw[vI,ya];show (decide (j<16)&&(qi a).2 (j % 4*4+j / 4))=true↔j<16/\pad (dig 2 j)∈uni [] (a.ts.map fun t=>[t.getD 1 0,t.getD 0 0,0]);rw[qq,ya,vj,decide_eq_true_eq,l,szA2];simp only[qD,false_or,qk];constructor
 .rintro ⟨o,P,I⟩
  refine⟨o,_,I,?_⟩;simp[dig,pad];omega
 .rintro ⟨o,t,p,e⟩
  obtain⟨i,r,rfl⟩:=Zm C g p;rw[l,szA2]at r;rw[l]at e p;simp[dig,pad]at e;have:j % 4*4+j / 4=i:=zOm;rw[this];exact⟨o,r,p⟩
theorem Xm(h:1<=l.length/\l.length<=3)(g:∀ x,x∈l->0<=x/\x<4):eRS (oneS l)=eRS (qi (kOf l)):=by
 refine uU rfl fun j P=>?_
 obtain⟨i,o,e⟩:=nT (p:=(l.length:Int)) zOm rfl g;have r:atF 0 l=i:=by
  match l,h,g,o,e with
  | [x],_,g,o,e =>
   have:=g x zSp;simp[dig]at e;simp[atF,IntKind.wrap,IntKind.signed,IntKind.bits];omega
  | [x,y],_,g,o,e =>
   have:=g x zSp;have:=g y zSp;simp[dig]at e;simp[atF,IntKind.wrap,IntKind.signed,IntKind.bits];omega
  | [x,y,z],_,g,o,e =>
   have:=g x zSp;have:=g y zSp;have:=g z zSp;simp[dig]at e;simp[atF,IntKind.wrap,IntKind.signed,IntKind.bits];omega
 rw[vI,ya];show decide ((j:Int)=atF 0 l)=true↔j<szA (l.length:Int)/\pad (dig (l.length:Int) j)∈[pad l];rw[decide_eq_true_eq,r,qN];have C:=fun j=>Qc (k:=(l.length:Int)) zOm j
 constructor
 .intro I
  obtain rfl:j=i:=zOm;exact⟨o,by rw[<-e]⟩
 .rintro ⟨I,J⟩
  have t:=Xl (zW1 (C j)) (zW1 (C j)) J;rw[e]at t;have:=Xk (p:=(l.length:Int)) zOm I o (by rw[<-e]at t⊢;exact t);omega
end
end QF
namespace QG
open Y2 P1 P2 PB QE QF
section
variable {k:Kd}{ns:Nat}
def Yv(k:Kd):Kd:=kSum k (zA k k)
def itK:Nat->Kd->Kd
 | 0,k=>k
 |i+1,k=>Yv (itK i k)
theorem qi2(h:okKd ns k)(g:k.ar=2):okKd ns (Yv k)/\(Yv k).ar=2:=
 ⟨Yb h (Yd h h zOm zOm) (by simp only[zA];omega),g⟩
theorem okIt(h:okKd ns k)(g:k.ar=2):∀ i,okKd ns (itK i k)/\(itK i k).ar=2
 | 0=>⟨h,g⟩
 |i+1=>qi2 (okIt h g i).1 (okIt h g i).2
abbrev Ed(k:Kd)(u v:Int):Prop:=[u,v,0]∈k.ts
theorem VE(h:okKd ns k)(o:k.ar=2){t:Tp}(j:t∈k.ts):∃ u v,t=[u,v,0]/\(0<=u/\u<ns)/\(0<=v/\v<ns):=by
 obtain⟨l,rfl,g,i⟩:=h.ts t j
 match l,g,i with
 | [u,v],_,i=>exact⟨u,v,rfl,i u zSp,i v zSp⟩
 | [],g,_=>simp at g;omega
 | [_],g,_=>simp at g;omega
 |_ :: _ :: _ :: _,g,_=>simp at g;omega
theorem nX(h:okKd ns k)(j:k.ar=2){u v:Int}:[u,v,0]∈(zA k k).ts↔∃ w,Ed k u w/\Ed k w v:=by
 show [u,v,0]∈vW k.ar.toNat k.ar.toNat k.ts k.ts↔_;rw[QF.wZ,j];constructor
 .rintro ⟨x,y,o,p,g,i⟩
  obtain⟨a,b,rfl,_,_⟩:=VE h j o;obtain⟨c,d,rfl,_,_⟩:=VE h j p;have g:b=c:=g;have i:[a,d,0]=[u,v,0]:=i;injection i with r l;injection l with l _;subst r l g;exact⟨b,o,p⟩
 .rintro ⟨w,g,i⟩
  exact⟨[u,w,0],[w,v,0],g,i,rfl,rfl⟩
theorem Xn(h:okKd ns k)(g:k.ar=2){u v:Int}:Ed (Yv k) u v↔Ed k u v\/∃ w,Ed k u w/\Ed k w v:=by
 unfold Ed Yv;rw[wA,nX h g]
def Path(k:Kd)(n:Nat)(u v:Int):Prop:=∃ f:Nat->Int,f 0=u/\f n=v/\∀ i,i<n->Ed k (f i) (f (i+1))
theorem Path.one{u v:Int}(h:Ed k u v):Path k 1 u v:=⟨fun i=>if i=0 then u else v,rfl,rfl,fun i g=>by
 obtain rfl:i=0:=zOm;exact h⟩
theorem Path.comp{n m:Nat}{u w v:Int}(h:Path k n u w)(p:Path k m w v):Path k (n+m) u v:=by
 obtain⟨f,f0,fn,hf⟩:=h;obtain⟨g,o,r,t⟩:=p;refine⟨fun i=>if i<n then f i else g (i-n),?_,?_,fun i I=>?_⟩
 .by_cases C:0<n
  .simp [C,f0]
  .have:n=0:=by omega
   subst this;simp[o,<-fn,f0]
 .simp only[if_neg (show ¬n+m<n by omega),Nat.add_sub_cancel_left,r]
 .by_cases j:i+1<n
  .simp only[if_pos j,if_pos (show i<n by omega)];exact hf i zOm
  .by_cases l:i<n
   .have e:i+1=n:=by omega
    simp only[if_neg j,if_pos l];have:=hf i l;rw[e,fn]at this;rw[show i+1-n=0 by omega,o];exact this
   .simp only[if_neg j,if_neg l,show i+1-n=(i-n)+1 by omega]
    exact t (i-n) zOm
theorem Path.short(h:okKd ns k)(t:k.ar=2)(g:ns<=4):∀(N n:Nat) (u v:Int),n<=N->1<=n->Path k n u v->∃ m,1<=m/\m<=4/\Path k m u v
 | 0,n,u,v,hN,C,_=>zOm
 | N+1,n,u,v,hN,C,I=>by
  by_cases h4:n<=4
  .exact ⟨n,C,h4,I⟩
  obtain⟨f,f0,fn,hf⟩:=I;have hr:∀ i,i<5->0<=f i/\f i<4:=fun i J=>by
   obtain⟨a,b,e,ha,P⟩:=VE h t (hf i zOm);injection e with R _;omega
  obtain⟨i,j,a0,hj,e⟩:∃ i j,i<j/\j<5/\f i=f j:=by
   apply Classical.byContradiction;intro l;have o:((qo 5).map f).Nodup:=List.pairwise_map.2 (List.pairwise_lt_range.imp_of_mem fun {a b} ha P p e=>l ⟨a,b,p,yj.1 P,e⟩);have:=List.Nodup.length_le_of_subset o (l₂:=[0,1,2,3]) fun x T=>by
    obtain⟨i,J,rfl⟩:=qk.1 T;have:=hr i (yj.1 J);simp;omega
   simp at this
  refine Path.short h t g N (n-(j-i)) u v zOm zOm ⟨fun x=>if x<i then f x else f (x+(j-i)),?_,?_,fun x T=>?_⟩
  .by_cases h0:0<i
   .simp [h0,f0]
   .have:i=0:=by omega
    subst this;simp[<-e,f0]
  .simp only[if_neg (show ¬n-(j-i)<i by omega),show n-(j-i)+(j-i)=n by omega,fn]
  .by_cases r:x+1<i
   .simp only[if_pos r,if_pos (show x<i by omega)];exact hf x zOm
   .by_cases U:x<i
    .have R:x+1=i:=by omega
     simp only[if_neg r,if_pos U];rw[show x+1+(j-i)=j by omega,<-e,<-R];exact hf x zOm
    .simp only[if_neg r,if_neg U,show x+1+(j-i)=(x+(j-i))+1 by omega]
     exact hf _ zOm
theorem Yw(h:okKd ns k)(g:k.ar=2):∀(i:Nat) (u v:Int),Ed (itK i k) u v->∃ n,1<=n/\Path k n u v
 | 0,u,v,j=>⟨1,zOm,.one j⟩
 |i+1,u,v,j=>by
  rcases (Xn (okIt h g i).1 (okIt h g i).2).1 j with j|⟨w,l,o⟩
  .exact Yw h g i u v j
  .obtain ⟨n,r,p⟩:=Yw h g i u w l
   obtain⟨m,t,q⟩:=Yw h g i w v o;exact⟨n+m,zOm,p.comp q⟩
theorem Zn(i:Nat):Sub (itK i k) (itK (i+1) k):=WZ _ _
theorem qi3(h:okKd ns k)(g:k.ar=2){m:Nat}{u v:Int}(p:1<=m)(r:m<=4)(o:Path k m u v):Ed (itK 4 k) u v:=by
 obtain⟨f,rfl,rfl,hf⟩:=o;have up:∀{u v},Ed (itK 2 k) u v->Ed (itK 4 k) u v:=fun i=>(Zn 3).2 _ ((Zn 2).2 _ i)
 have s1:∀{u w v},Ed (itK 0 k) u w->Ed (itK 0 k) w v->Ed (itK 1 k) u v:=fun a b=>(Xn (okIt h g 0).1 (okIt h g 0).2).2 (.inr ⟨_,a,b⟩)
 have j:∀{u w v},Ed (itK 1 k) u w->Ed (itK 1 k) w v->Ed (itK 2 k) u v:=fun a b=>(Xn (okIt h g 1).1 (okIt h g 1).2).2 (.inr ⟨_,a,b⟩)
 have l:∀{u v},Ed (itK 0 k) u v->Ed (itK 1 k) u v:=fun i=>(Zn 0).2 _ i
 refine up ?_;rcases (show m=1\/m=2\/m=3\/m=4 by omega) with rfl|rfl|rfl|rfl
 .exact (Zn 1).2 _ (l (hf 0 zOm))
 .exact (Zn 1).2 _ (s1 (hf 0 zOm) (hf 1 zOm))
 .exact j (s1 (hf 0 zOm) (hf 1 zOm)) (l (hf 2 zOm))
 .exact j (s1 (hf 0 zOm) (hf 1 zOm)) (s1 (hf 2 zOm) (hf 3 zOm))
theorem qi4(h:okKd ns k)(g:k.ar=2)(i:ns<=4):Vv (itK 4 k):=fun t l=>by
 have ok:=okIt h g 4;have j:=Yd ok.1 ok.1 (by rw[ok.2];omega) (by rw[ok.2];omega);obtain⟨u,v,rfl,_,_⟩:=VE j (by simp only[zA];rw[ok.2];rfl) l;obtain⟨w,o,r⟩:=(nX ok.1 ok.2).1 l;obtain⟨n,I,p⟩:=Yw h g 4 u w o;obtain⟨m,J,q⟩:=Yw h g 4 w v r;obtain⟨c,c1,c4,C⟩:=Path.short h g i (n+m) (n+m) u v (qn _) zOm (p.comp q);exact qi3 h g c1 c4 C
theorem Yx{S:Kd}(g:Vv S){k:Kd}(h:Sub k S):∀ i,Sub (itK i k) S
 | 0=>h
 |i+1=>⟨(Yx g h i).1,fun t j=>by
  rcases wA.1 j with j|j
  .exact (Yx g h i).2 t j
  .exact g t ((Vu (Yx g h i) (Yx g h i)).2 t j)⟩
theorem nY:∀ i,Sub k (itK i k)
 | 0 => .refl k
 |i+1=>(nY i).trans (Zn i)
theorem qi5(h:okKd ns k)(l:k.ar=2)(g:ns<=4):eRS (qi (itK 4 k))=eRS (qi (kClo k)):=by
 have o:Sub (kClo k) (itK 4 k):=W3 (qi4 h l g) 70 0 k (nY 4);have i:Sub (itK 4 k) (kClo k):=Yx (W4 g 70 0 k h l zOm (.inl rfl)) (W0 70 0 k) 4;refine uU i.1 fun j p=>?_
 rw[vI,ya,ya,i.1];exact⟨fun x=>⟨x.1,i.2 _ x.2⟩,fun x=>⟨x.1,o.2 _ x.2⟩⟩
end
end QG
namespace QH
open YF Y9 Y2 Y3 P1 P2 PB QD QE QF QG
theorem qi6{ns:Nat}{a:Kd}(h:okKd ns a)(I:a.ar=2)(g:ns<=4):qd qb 206 [eRS (qi a)] (eRS (qi (kClo a))):=by
 refine qSQ call206 func206 rfl { mt:=[1] } ?_;rw[<-qi5 h I g];simp[go_sem];refine⟨qQ _,?_⟩;refine qh.upK 4 (fun i st=>st.tm 1 = .ptr 0 0/\st.tm 2 = .ptr 1 0/\st.tm 3=aI i/\st.mu=[.arr (cRS (qi (itK i a))),.arr (aI 0 :: hB fun _=>false)]) ?_ ?_
 .exact ⟨zSi,zSi,zSi,by simp[go_sem];exact⟨⟨rfl,rfl⟩,rfl⟩⟩
 rintro i st U ⟨l,o,p,J⟩;by_cases r:i<4
 .have j:(i:Int)<4:=by omega
  have P:=zWk i;obtain⟨ok,o2⟩:=okIt h I i;have R:qd qb 203 [eRS (qi (itK i a)),eRS (qi (itK i a))] (eRS (qi (zA (itK i a) (itK i a)))):=by
   rw[<-nW ok ok g zOm];exact VD _ _ (by show 0<=(itK i a).ar/\(itK i a).ar<=1000;omega) (by show 1<=(itK i a).ar/\(itK i a).ar<=1000;omega)
  have T:qd qb 201 [eRS (qi (itK i a)),eRS (qi (zA (itK i a) (itK i a)))] (eRS (qi (itK (i+1) a))):=by
   have:=vo (qi (itK i a)) (qi (zA (itK i a) (itK i a)));rw[Yu (by simp only[zA];omega)]at this;exact this
  generalize t:qi (itK (i+1) a)=s' at *
  generalize qi (zA (itK i a) (itK i a))=q at *
  generalize qi (itK i a)=s at *
  simp[go_sem,p,J,j];refine qg.intro zKr ?_;simp[go_sem,l,qm,tk];refine qc.zP R (.zk (zT _) (.zk (zT _) .nil)) ?_;refine qc.pure T (.zk (zT _) (.zk (zT _) .nil)) ?_;simp[go_sem,l,qm,pc];rw[if_pos (qQ _)];simp[go_sem,p,P];exact⟨r,Keep.mk' ⟨zS1 l,zS1 o,zSi,zS1 t⟩⟩
 .have C:i=4:=by omega
  subst C;generalize qi (itK 4 a)=s at *
  simp[go_sem,l,o,p,J,qm,tk,pc];rw[if_pos (qQ _)];simp[go_sem,o,qm,tk];exact .hf _ (zT s)
theorem qi7(i k:Nat)(g:k=1\/k=2):eRS (qi (kSum (zt i k) (kOf (zp k (i:Int)))))=eRS (qi (zt (i+1) k)):=by
 refine uU rfl fun j l=>?_
 rw[vI,ya,ya];show j<szA (k:Int)/\pad (dig (k:Int) j)∈(kSum (zt i k) (kOf (zp k (i:Int)))).ts↔j<szA (k:Int)/\pad (dig (k:Int) j)∈(qo (i+1)).map fun (x:Nat)=>pad (zp k (x:Int))
 rw[wA,List.range_succ,zd,qC];rfl
theorem qi8(k:Nat):hB (qi (zt 0 k)).2=hB fun _=>false:=vy fun j _=>decide_eq_false fun h=>absurd h.2 qD
theorem allU(ts:TS)(h:okTS ts)(k:Nat)(R:k=1\/k=2):qd qb 200 [eTS ts,aI k] (eRS (qi (zt ts.sorts.length k))):=by
 refine qSV call200 func200 rfl ?_;have a0:=h.ns;have hz:=qi8 k;simp[go_sem];refine qh.upK ts.sorts.length (fun i st=>st.tm 1=aI k/\st.tm 2 = .ip (cTS ts)/\st.tm 4 = .ptr 0 0/\st.tm 5 = .ptr 1 0/\st.tm 6=aI i/\st.mu=[.arr (aI 0 :: hB fun _=>false),.arr (cRS (qi (zt i k)))]) ?_ ?_
 .exact ⟨zSi,zSi,zSi,zSi,zSi,by
   have e:cRS (qi (zt 0 k))=aI k :: hB fun _=>false:=by simp only[cRS,hz];rfl
   rw[e];simp[go_sem];first|rfl|exact⟨rfl,rfl⟩⟩
 rintro i st hi ⟨C,r,I,j,o,J⟩;by_cases g:i<ts.sorts.length
 .have T:=zWk i
  have c1:∀ l:List Int,l=zp k (i:Int)->qd qb 166 [lI l] (eRS (qi (kOf l))):=fun l p=>by
   have U:l.length=k:=by rw[p,List.length_replicate]
   have:=oneU l zOm;rw[Xh]at this;rw[<-QF.Xm (l:=l) zOm (fun x hx=>by rw[p]at hx;rw[List.eq_of_mem_replicate hx];omega)];exact this
  have cu:∀ l:List Int,l=zp k (i:Int)->qd qb 201 [eRS (qi (zt i k)),eRS (qi (kOf l))] (eRS (qi (zt (i+1) k))):=fun l p=>by
   have:=vo (qi (zt i k)) (qi (kOf l));rw[Yu (by show (k:Int)=l.length;rw[p,List.length_replicate]),p,qi7 i k R]at this;rw[p];exact this
  generalize t:qi (zt (i+1) k)=s' at *
  generalize qi (zt i k)=s at *
  rcases R with rfl|rfl
  .have d1:=c1 [(i:Int)] rfl
   have d2:=cu [(i:Int)] rfl;generalize qi (kOf [(i:Int)])=q at *
   simp[go_sem,C,r,o,J,g];refine qg.intro zKr ?_;simp[go_sem,j,o,qm,tk];refine qc.zP d1 (.cons (QD.wk1 _) .nil) ?_;refine qc.pure d2 (.zk (zT _) (.zk (zT _) .nil)) ?_;simp[go_sem,j,qm,pc];rw[if_pos (qQ _)];simp[go_sem,o,T];exact⟨g,Keep.mk' ⟨zS1 C,zS1 r,zS1 I,zS1 j,zSi,zS1 t⟩⟩
  .have d1:=c1 [(i:Int),(i:Int)] rfl
   have d2:=cu [(i:Int),(i:Int)] rfl;generalize qi (kOf [(i:Int),(i:Int)])=q at *
   simp[go_sem,C,r,o,J,g];refine qg.intro zKr ?_;simp[go_sem,j,o,qm,tk];refine qc.zP d1 (.cons (QD.wk2 _ _) .nil) ?_;refine qc.pure d2 (.zk (zT _) (.zk (zT _) .nil)) ?_;simp[go_sem,j,qm,pc];rw[if_pos (qQ _)];simp[go_sem,o,T];exact⟨g,Keep.mk' ⟨zS1 C,zS1 r,zS1 I,zS1 j,zSi,zS1 t⟩⟩
 .have P:i=ts.sorts.length:=by omega
  subst P;generalize qi (zt ts.sorts.length k)=s at *
  simp[go_sem,r,I,j,o,J,qm,tk,pc];rw[if_pos (qQ _)];simp[go_sem,I,qm,tk];exact .hf _ (zT s)
end QH
namespace QI
open YF Y9 Y10 Y1 Y2 P1 P2
section
variable {nm:ByteArray}
theorem qi9{c:Ck}{k:Nat}(l:k<c.calls)(o:k<c.ts.preds.length)(h:c.ts.preds[k].name=nm)(i:∀(j:Nat) (g:j<c.ts.preds.length),j<k->c.ts.preds[j].name≠nm):zb c nm=some k:=by
 unfold zb;rw[List.findIdx?_eq_some_iff_getElem];refine⟨zSo,zP1 h,fun j g=>?_⟩;simp[i j zOm g]
theorem qjA{c:Ck}(i:∀(j:Nat) (g:j<c.ts.preds.length),j<c.calls->c.ts.preds[j].name≠nm):zb c nm=none:=by
 unfold zb;rw[List.findIdx?_eq_none_iff];intro p l;obtain⟨j,g,e⟩:=List.mem_iff_getElem.1 l;simp at g;rw[List.getElem_take]at e;rw[<-e];exact decide_eq_false (i j zOm zOm)
abbrev idxO:Option Nat->Int
 |some i=>i
 |none => -1
theorem Yy(c:Ck)(P:okCk c)(nm:ByteArray):qd qb 115 [eTS c.ts,aI c.calls,aS nm] (aI (idxO (zb c nm))):=by
 refine qSV call115 func115 rfl ?_;have R:=P.calls;have T:=P.ts.np;simp[go_sem];refine qh.upK c.calls (fun k st=>st.tm 1=aI c.calls/\st.tm 2=aS nm/\st.tm 3 = .ip (cTS c.ts)/\st.tm 7=aI k/\∀(j:Nat) (p:j<c.ts.preds.length),j<k->c.ts.preds[j].name≠nm) ?_ ?_
 .exact ⟨zSi,zSi,zSi,zSi,fun j p h=>zOm⟩
 rintro k st hk ⟨l,r,t,C,I⟩;by_cases g:k<c.calls
 .have U:=zWk k
  have i:k<c.ts.preds.length:=zOm;by_cases o:c.ts.preds[k].name=nm
  .rw [qi9 g i o I]
   simp[go_sem,l,r,t,C,g,i,o];exact .zsc _
  .simp [go_sem,l,r,t,C,g,i,jM o,U]
   refine Keep.mk' ⟨zS1 l,zS1 r,zS1 t,zSi,fun j p a0=>?_⟩;by_cases he:j=k
   .subst he;exact o
   .exact I j p zOm
 .have J:k=c.calls:=by omega
  subst J;rw[qjA I];simp[go_sem,l,C];exact .zsc _
theorem Zo(op:Int):qd qb 159 [aI op] (aB (zO op)):=by
 refine qSV call159 func159 rfl ?_;by_cases g:op=5
 .rw [show zO op=true by simp[zO,g]]
  simp[go_sem,g];exact .zsc _
 by_cases i:48<=op
 .by_cases j:op<=51
  .rw [show zO op=true by unfold zO;rcases (show op=48\/op=49\/op=50\/op=51 by omega) with h|h|h|h<;>simp[h]]
   simp[go_sem,g,i,j];exact .zsc _
  .rw [show zO op=false by simp[zO,g,show ¬op=48 by omega,show ¬op=49 by omega,show ¬op=50 by omega,show ¬op=51 by omega]]
   simp[go_sem,g,i,j];exact .zsc _
 .rw [show zO op=false by simp[zO,g,show ¬op=48 by omega,show ¬op=49 by omega,show ¬op=50 by omega,show ¬op=51 by omega]]
  simp[go_sem,g,i];exact .zsc _
abbrev rBo(b:Bool):List AV:=[aB b]
abbrev lBo(l:List Bool):AV := .lst false (l.map rBo)
theorem Yz(l:List Bool):HF (lBo l):=HF.lst fun r i c g=>by
 obtain⟨b,_,rfl⟩:=qk.1 i;rw[qN]at g;subst g;exact HF.sc _
def tpB(c:Ck)(nm:ByteArray):Bool:=match zb c nm with|some p=>c.timed.getD p false|none=>false
theorem Zp(c:Ck)(o:okCk c)(nm:ByteArray):qd qb 160 [eTS c.ts,lBo c.timed,aI c.calls,aS nm] (aB (tpB c nm)):=by
 generalize i:tpB c nm=r;unfold tpB at i;refine qSU call160 func160 rfl ?_;refine qc.pure (Yy c o nm) (.zk (zn _) (.zs (.zs .nil))) ?_;cases j:zb c nm with
 |none =>
  rw[j]at i;subst i;simp[go_sem,idxO];exact .zsc _
 |some p =>
  rw[j]at i;by_cases l:p<c.timed.length
  .have g:r=c.timed[p]:=by rw[<-i];simp[List.getD,l]
   subst g;simp[go_sem,idxO,l];exact .zsc _
  .have g:r=false:=by rw[<-i];simp[List.getD,l]
   subst g;simp[go_sem,idxO,l];exact .zsc _
theorem nZ(c:Ck)(hc:okCk c)(hl:c.timed.length=c.calls):∀(m:Nat) (n:Nd),szN n<=m->yf n->qd qb 165 [eTS c.ts,lBo c.timed,eNd n] (aB (yk c n))
 | 0,n,hm,_=>by obtain⟨op,nm,i,ks,p⟩:=n;simp[szN]at hm
 |m+1,n,hm,hs=>by
  have ih:∀ k,k∈n.kids->qd qb 165 [eTS c.ts,lBo c.timed,eNd k] (aB (yk c k)):=fun k J =>
   nZ c hc hl m k (zW1 (yv J)) (hs.kid J)
  have a0:=hs.len;have P:zF c n.op n.name=(zO n.op||(decide (n.op=47)&&tpB c n.name)):=rfl;rw[U3,P];generalize hR:n.kids.any (yk c)=R;have ct:=Zo n.op;have cp:=Zp c hc n.name;generalize zO n.op=T at *
  generalize tpB c n.name=B at *
  refine qSU call165 func165 rfl ?_;refine qc.pure ct (.zs .nil) ?_;cases T with
  |true =>
   simp[go_sem];exact .zsc _
  |false =>
  rw[Bool.false_or];by_cases h47:n.op=47
  .rw [decide_eq_true h47,Bool.true_and]
   simp[go_sem,h47,hl];refine qc.pure cp (.zk (zn _) (.zk (Yz _) (.zs (.zs .nil)))) ?_;cases B with
   |true =>
    simp[go_sem];exact .zsc _
   |false =>
   rw[Bool.false_or];simp[go_sem];refine qh.upK n.kids.length (fun k st=>st.tm 1=lBo c.timed/\st.tm 3 = .ip (cTS c.ts)/\st.tm 5 = .ip (cNd n)/\st.tm 7=aI k/\(n.kids.drop k).any (yk c)=R) ?_ ?_
   .exact ⟨zSi,zSi,zSi,zSi,zUs hR⟩
   rintro k st J ⟨t,C,l,o,j⟩;by_cases r:k=n.kids.length
   .subst r
    rw[yR]at j;have j:R=false:=by rw[<-j];rfl
    subst j;simp[go_sem,l,o];exact .zsc _
   have g:k<n.kids.length:=zOm;have U:=zWk k;rw[zD g,List.any_cons]at j;have hi:=ih n.kids[k] (qt g);simp[go_sem,l,o,g];refine qg.intro zKr ?_;simp[go_sem,t,C,l,o,g];refine qc.pure hi (.zk (zn _) (.zk (Yz _) (.zk (za _) .nil))) ?_;cases I:yk c n.kids[k] with
   |true =>
    rw[I,Bool.true_or]at j;subst j;simp[go_sem];exact .zsc _
   |false =>
    rw[I,Bool.false_or]at j;simp[go_sem,o,g,U];exact Keep.mk' ⟨zS1 t,zS1 C,zS1 l,zSi,j⟩
  .rw [decide_eq_false h47,Bool.false_and,Bool.false_or]
   simp[go_sem,h47];refine qh.upK n.kids.length (fun k st=>st.tm 1=lBo c.timed/\st.tm 3 = .ip (cTS c.ts)/\st.tm 5 = .ip (cNd n)/\st.tm 7=aI k/\(n.kids.drop k).any (yk c)=R) ?_ ?_
   .exact ⟨zSi,zSi,zSi,zSi,zUs hR⟩
   rintro k st J ⟨t,C,l,o,j⟩;by_cases r:k=n.kids.length
   .subst r
    rw[yR]at j;have j:R=false:=by rw[<-j];rfl
    subst j;simp[go_sem,l,o];exact .zsc _
   have g:k<n.kids.length:=zOm;have U:=zWk k;rw[zD g,List.any_cons]at j;have hi:=ih n.kids[k] (qt g);simp[go_sem,l,o,g];refine qg.intro zKr ?_;simp[go_sem,t,C,l,o,g];refine qc.pure hi (.zk (zn _) (.zk (Yz _) (.zk (za _) .nil))) ?_;cases I:yk c n.kids[k] with
   |true =>
    rw[I,Bool.true_or]at j;subst j;simp[go_sem];exact .zsc _
   |false =>
    rw[I,Bool.false_or]at j;simp[go_sem,o,g,U];exact Keep.mk' ⟨zS1 t,zS1 C,zS1 l,zSi,j⟩
theorem Xo(l:List Bool):zg 1 (l.map rBo):=fun r g=>by
 obtain⟨b,_,rfl⟩:=qk.1 g;exact⟨rfl,rfl⟩
theorem appBo{mu:Mu}{lo:Nat}{s:AV}{xs:List Bool}{b:Bool}{K:AV->Mu->Prop}(g:OwnF lo mu 1 s (xs.map rBo))(t:xs.length<=100000)(o:∀ av l,OwnF lo l 1 av ((xs++[b]).map rBo)->(∀ i,i<lo->l[i]?=mu[i]?)->K av l) :
  qA qb mu #[86,86] s (.lst true [[aB b]]) K:=by
 refine qA.ownF (lo:=lo) (e:=4) (sz:=1) (bt:=1) (zv:=aB false) (xs:=xs.map rBo) (ys:=[rBo b]) zSi zSi zSi rfl rfl zOm zOm g (by simp[qH]) (Xo xs) (Xo [b]) zSo ?_;intro av l h r;exact o av l (by rw[zd];exact h) r
theorem rdBo{lo:Nat}{mu:Mu}{av:AV}{l:List Bool}(i:OwnF lo mu 1 av (l.map rBo)):Rd mu av (lBo l):=
 Own.rd (sz:=1) i.1 (Xo l).ok fun r j c g=>by
  obtain⟨b,_,rfl⟩:=qk.1 j;rw[qN]at g;subst g;exact HF.sc _
theorem qjB(ts:TS)(h:okTS ts)(T:∀ p,p∈ts.preds->WfN p.body):qd qb 118 [eTS ts] (lBo (tmsL ts ts.preds.length)):=by
 refine qSV call118 func118 rfl ?_;have U:=h.np;simp[go_sem];refine qh.upK ts.preds.length (fun k st=>st.tm 1 = .ip (cTS ts)/\st.tm 4=aI k/\OwnF 0 st.mu 1 (st.tm 3) ((tmsL ts k).map rBo)) ?_ ?_
 .exact ⟨zSi,zSi,by simp[go_sem,tmsL];exact OwnF.nil (Nat.zero_le _)⟩
 rintro k st hk ⟨j,l,o⟩;by_cases g:k<ts.preds.length
 .have w1:=zWk k
  generalize r:st.tm 3=P at *
  have t:=rdBo o;have ht:=nZ (mkCk ts k) (uM h zOm) (Q0 ts k zOm) (szN ts.preds[k].body) ts.preds[k].body (qn _) (T _ (qt g)).small;have R:=Q0 ts k zOm;have i:tmsL ts (k+1)=tmsL ts k++[yk (mkCk ts k) ts.preds[k].body]:=by
   show tmsL ts k++(match ts.preds[k]? with|some p=>[yk ⟨ts,k,tmsL ts k⟩ p.body] | none=>[])=_;rw[qv g];rfl
  simp[go_sem,j,l,g];refine qg.intro zKr ?_;simp[go_sem,j,l,r,g];refine qc.lend (args':=[eTS ts,lBo (tmsL ts k),eNd ts.preds[k].body]) ht ⟨.hf _ (zn ts),t,.hf _ (za _),trivial⟩ (FL.sc _) ?_;simp[go_sem];refine appBo o zOm fun a0 m' I _=>?_
  simp[go_sem,l,g,w1];exact Keep.mk' ⟨zS1 j,zSi,by rw[i];simpa[go_sem] using I⟩
 .have J:k=ts.preds.length:=by omega
  subst J;generalize r:st.tm 3=P at *
  simp[go_sem,j,l,r];exact rdBo o
end
end QI
namespace QJ
open YF Y1 P1 QD QE QF
abbrev Vr:=ByteArray×RS
abbrev cVr(v:Vr):List AV:=aS v.1 :: cRS v.2
abbrev lVr(l:List Vr):AV := .lst false (l.map cVr)
theorem n6(v:Vr):∀ c,c∈cVr v->HF c:=fun c g=>by
 rcases qu.1 g with rfl|g
 .exact HF.sc _
 .exact ((setC v.2).sc c g).2
theorem qjC(l:List Vr):HF (lVr l):=HF.lst fun r g c i=>by
 obtain⟨v,_,rfl⟩:=qk.1 g;exact n6 v c i
theorem Xp(v:Vr):∀ c,c∈cVr v->c.one=true:=fun c g=>by
 rcases qu.1 g with rfl|g
 .rfl
 .exact ((setC v.2).sc c g).1
theorem Xq(l:List Vr):zg 66 (l.map cVr):=fun r g=>by
 obtain⟨v,_,rfl⟩:=qk.1 g;exact⟨by simp[hB],qJ.2 (Xp v)⟩
theorem Xr{mu:Mu}{lo:Nat}{s x:AV}{xs ys:List Vr}{K:AV->Mu->Prop}(g:OwnF lo mu 66 s (xs.map cVr))(j:qH mu x=some (ys.map cVr))(t:xs.length+ys.length<=100000)(o:∀ av l,OwnF lo l 66 av ((xs++ys).map cVr)->(∀ i,i<lo->l[i]?=mu[i]?)->K av l) :
  qA qb mu #[197,197] s x K:=by
 refine qA.ownF (lo:=lo) (e:=250) (sz:=66) (bt:=88) (zv := .agg (aS ⟨#[]⟩ :: aI 0 :: zs)) (xs:=xs.map cVr) (ys:=ys.map cVr) zSi zSi (by simp[go_sem];rfl) rfl rfl zOm zOm g j (Xq xs) (Xq ys) zSo ?_;intro av l h r;exact o av l (by rw[zd];exact h) r
theorem rdVr{lo:Nat}{mu:Mu}{av:AV}{l:List Vr}(g:OwnF lo mu 66 av (l.map cVr)):Rd mu av (lVr l):=
 Own.rd (sz:=66) g.1 (Xq l).ok fun r i c j=>by
  obtain⟨v,_,rfl⟩:=qk.1 i;exact n6 v c j
theorem pcV(n:ByteArray)(q:RS):putCells (aS n :: aI 0 :: zs) 1 (aI q.1 :: hB q.2)=cVr (n,q):=by
 have g:zs.length=64:=rfl;rw[yq _ _ _ (by simp[qm,g])];simp[qm,g,List.drop_of_length_le]
def envV(env:List (ByteArray×Int)):List Vr:=env.map fun p=>(p.1,qi (kOf [p.2]))
theorem envU(env:List (ByteArray×Int))(hl:env.length<=1000)(hr:∀ p,p∈env->0<=p.2/\p.2<4):qd qb 119 [lPm env] (lVr (envV env)):=by
 refine qSU call119 func119 rfl ?_;refine qh.upK env.length (fun k st=>st.tm 0=lPm env/\st.tm 4=aI k/\OwnF 0 st.mu 66 (st.tm 3) ((envV (env.take k)).map cVr)) ?_ ?_
 .exact ⟨zSi,zSi,by simp[go_sem,envV];exact OwnF.nil (Nat.zero_le _)⟩
 rintro k st hk ⟨o,r,t⟩;by_cases g:k<env.length
 .have w1:=zWk k
  generalize I:st.tm 3=P at *
  have hp:=hr _ (qt g);have c1:qd qb 166 [lI [env[k].2]] (eRS (qi (kOf [env[k].2]))):=by
   have:=oneU [env[k].2] zSp;rw[Xh]at this;rw[<-QF.Xm (l:=[env[k].2]) zSp (fun x hx=>by rw[qN]at hx;subst hx;exact hp)];exact this
  have i:envV (env.take (k+1))=envV (env.take k)++[(env[k].1,qi (kOf [env[k].2]))]:=by
   unfold envV;rw[jF g,zd];rfl
  have a1:(envV (env.take k)).length=k:=by simp[envV];omega
  generalize qi (kOf [env[k].2])=q at *
  simp[go_sem,o,r,g];refine qg.intro zKr ?_;simp[go_sem,o,r,I,g];refine qc.zP c1 (.cons (QD.wk1 _) .nil) ?_;rw[if_pos ⟨qm _,qQ _⟩];generalize hC:putCells _ 1 _=C;have J:C=cVr (env[k].1,q):=by rw[<-hC];exact pcV _ _
  subst J;clear hC;have R:(cVr (env[k].1,q)).length=66:=by simp[qm]
  have T:=Xp (env[k].1,q);generalize hV:cVr (env[k].1,q)=V at *
  simp[go_sem,R];rw[if_pos T];simp[go_sem];refine Xr (ys:=[(env[k].1,q)]) t (by simp[qH,hV]) zSo fun a2 m' U _=>?_
  simp[go_sem,r,g,w1];exact Keep.mk' ⟨zS1 o,zSi,by rw[i];simpa[go_sem] using U⟩
 .have a0:k=env.length:=by omega
  subst a0;rw[qX]at t;generalize I:st.tm 3=P at *
  simp[go_sem,o,r,I];exact rdVr t
end QJ
namespace QK
open Y9 Y2 P1 QD QE QF
def fin(c:List AV)(l:List Kd):List AV:=match l.getLast? with|some k=>cRS (qi k)|none=>c
theorem YI(c:List AV)(l m:List Kd):fin c (l++m)=fin (fin c l) m:=by
 unfold fin;rw[List.getLast?_append];cases m.getLast?<;>rfl
theorem VF(c:List AV)(k:Kd):fin c [k]=cRS (qi k):=rfl
theorem oneK{l:List Int}(h:1<=l.length/\l.length<=3)(g:∀ x,x∈l->0<=x/\x<4):oneC l=cRS (qi (kOf l)):=by
 rw[Xh];exact AV.agg.inj (QF.Xm h g)
theorem n7(nm:ByteArray):∀(l:List Fld) (c:List AV) (k:Nat),(∀ f,f∈l->(1<=f.sorts.length/\f.sorts.length<=3)/\∀ x,x∈f.sorts->0<=x/\x<4)->nmF nm l (c,k)=(fin c (j5 l nm),k+(j5 l nm).length)
 | [],c,k,_=>rfl
 |f :: l,c,k,h=>by
  have hf:=h f (qR ..);have j:=fun c k=>n7 nm l c k fun g o=>h g (qK _ o)
  by_cases i:f.name=nm
  .have e:j5 (f :: l) nm=[kOf f.sorts]++j5 l nm:=by simp[j5,i]
   rw[e,YI,VF];simp only[nmF,stF,if_pos i];rw[j,oneK hf.1 hf.2];simp;omega
  .have e:j5 (f :: l) nm=j5 l nm:=by simp[j5,i]
   rw[e];simp only[nmF,stF,if_neg i];exact j c k
theorem st_eq(nm:ByteArray)(i:Nat)(C:i<4)(x:ByteArray×Bool)(c:List AV)(k:Nat):st3 nm i x (st2 nm i x (st1 nm i x (c,k)))=(fin c (wX i x nm),k+(wX i x nm).length):=by
 have j:=oneK (l:=[(i:Int)]) zSp (fun y g=>by simp at g;subst g;omega);have o:=oneK (l:=[(i:Int),(i:Int)]) zSp (fun y g=>by simp at g;rcases g with rfl|rfl<;>omega);have p:∀ c k,st1 nm i x (c,k)=(fin c (if x.1=nm then [kOf [(i:Int)]] else []),k+(if x.1=nm then [kOf [(i:Int)]] else []).length):=fun c k=>by
  unfold st1;split
  .rw [VF,j];rfl
  .rfl
 have r:∀ c k,st2 nm i x (c,k)=(fin c (if x.2=true/\x.1++uH=nm then [kOf [(i:Int)]] else []),k+(if x.2=true/\x.1++uH=nm then [kOf [(i:Int)]] else []).length):=fun c k=>by
  unfold st2;split
  .rw [VF,j];rfl
  .rfl
 have t:∀ c k,st3 nm i x (c,k)=(fin c (if x.2=true/\x.1++uI=nm then [kOf [(i:Int),(i:Int)]] else []),k+(if x.2=true/\x.1++uI=nm then [kOf [(i:Int),(i:Int)]] else []).length):=fun c k=>by
  unfold st3;split
  .rw [VF,o];rfl
  .rfl
 unfold wX;rw[p,r,t,YI,YI,qU,qU];simp only[Nat.add_assoc]
theorem n8(nm:ByteArray):∀(l:List (ByteArray×Bool)) (i:Nat) (c:List AV) (k:Nat),i+l.length<=4->nmS nm i l (c,k)=(fin c (vY i l nm),k+(vY i l nm).length)
 | [],i,c,k,_=>rfl
 |x :: l,i,c,k,h=>by
  simp only[zq]at h;have g:=fun c k=>n8 nm l (i+1) c k zOm
  simp only[nmS,vY];rw[st_eq nm i zOm,g,YI,qU,Nat.add_assoc]
theorem Xs{ts:TS}(h:okTS ts)(nm:ByteArray):named ts nm=(fin (aI 0 :: zs) (means ts nm),(means ts nm).length):=by
 unfold named means;rw[n7 nm ts.fields _ _ fun f hf=>?_,n8 nm ts.sorts _ _ _ (zW1 h.ns),YI,qU,yc];have:=h.fl f hf;have g:=h.ns;exact⟨zOm,fun x i=>zW1 (this.2.2 x i)⟩
end QK
namespace QL
open YF Y9 Y1 Y2 P1 QD QE QF QI QJ QK
abbrev cVw(c:Ck)(inn:Bool):List AV:=[lSo c.ts.sorts,lFl c.ts.fields,lPd c.ts.preds,lFa c.ts.facts,lBo c.timed,aI c.calls,aB inn]
abbrev eVw(c:Ck)(inn:Bool):AV := .agg (cVw c inn)
def envS(s:Scp):List Vr:=s.reverse.map fun v=>(v.1,qi v.2)
theorem VG(s:Scp):(envS s).length=s.length:=by simp[envS]
theorem n9(env:List (ByteArray×Int)):envV env=envS (yL env):=by
 have h:∀(l:List (ByteArray×Int)) (a:Scp),l.foldl (fun s p=>(p.1,kOf [p.2]) :: s) a=(l.map fun p=>(p.1,kOf [p.2])).reverse++a:=by
  intro l;induction l with
  |nil=>intro a;rfl
  |cons p l g=>intro a;rw[List.foldl_cons,g];simp
 unfold envV envS yL;rw[h,zL,List.reverse_reverse,List.map_map];rfl
theorem qjD(s:Scp)(d:Nat)(h:d<s.length)(g:s.length-1-d<(envS s).length):(envS s)[s.length-1-d]=(s[d].1,qi s[d].2):=by
 have e:s.length-1-(s.length-1-d)=d:=zOm;simp[envS,List.getElem_reverse,e]
abbrev zR:RS:=(0,fun _=>false)
abbrev eDg(d:Dg):AV := .agg [aI d.1,aI d.2]
def endR(z:RS):Res->AV
 | .error e => .tup [eRS z,eDg e]
 | .ok (some k) => .tup [eRS (qi k),eDg (0,0)]
 | .ok none => .tup [eRS zR,eDg (0,0)]
theorem jt(s:RS)(d:Dg):HF (.tup [eRS s,eDg d]):=HF.tup fun x g=>by
 rcases qu.1 g with rfl|g
 .exact zT s
 .rw [qN]at g;subst g
  exact HF.agg fun c i=>by
   rcases qu.1 i with rfl|i
   .exact HF.sc _
   .rw [qN]at i;subst i;exact HF.sc _
theorem okNm.ofTS{ts:TS}(h:okTS ts):okNm ts:=⟨h.sl,zW1 h.ns,zW1 h.nf,fun f hf=>zW1 (h.fl f hf)⟩
theorem nameU(c:Ck)(hc:okCk c)(inn:Bool)(s:Scp)(n:Nd)(hs:s.length<=100000):qd qb 161 [eVw c inn,lVr (envS s),eNd n] (endR zR (yV c s n.name n.pos)):=by
 generalize i:endR zR (yV c s n.name n.pos)=R;unfold yV at i;refine qSV call161 func161 rfl ?_;have a0:=VG s;have w0:qs.wrap ((s.length:Int)-1)=(s.length:Int)-1:=zWr;simp[go_sem,a0,w0];refine qh.upK s.length (fun d st=>st.tm 1=lVr (envS s)/\st.tm 3 = .ip (cVw c inn)/\st.tm 5 = .ip (cNd n)/\st.tm 6 = .ptr 0 0/\st.tm 7 = .ptr 1 0/\st.tm 8=aI ((s.length:Int)-1-d)/\st.mu=[.arr (aI 0 :: hB fun _=>false),.arr [aI 0,aI 0]]/\jC n.name (s.drop d)=jC n.name s) ?_ ?_
 .exact ⟨zSi,zSi,zSi,zSi,zSi,zSi,by simp[go_sem];first|rfl|exact⟨rfl,rfl⟩,rfl⟩
 rintro d st hd ⟨e1,e3,r,p,I,j,hm,t⟩;by_cases J:d<s.length
 .have T:s.length-1-d<(envS s).length:=by omega
  have g:=qjD s d J T;obtain⟨e,he⟩:∃ e:Nat,e=s.length-1-d:=⟨_,rfl⟩;have a1:(s.length:Int)-1-d=(e:Int):=zOm;rw[a1]at j;rw[<-he]at T;have g:(envS s)[e]=(s[d].1,qi s[d].2):=by simp only[he];exact g
  have w1:qs.wrap ((e:Int)-1)=(s.length:Int)-1-((d+1:Nat):Int):=by rw[zWr];omega
  rw[zD J]at t;have h0:(0:Int)<=(e:Int):=zOm;by_cases hq:s[d].1=n.name
  .have hf:jC n.name s=s[d] :: s.drop (d+1):=by rw[<-t,jC,if_pos hq]
   rw[hf]at i;simp only[endR]at i;have i:R = .tup [eRS (qi s[d].2),eDg (0,0)]:=i.symm;subst i;simp[go_sem,j,hm];refine qg.intro zKr ?_;simp[go_sem,e1,j,T,g,hq];generalize qi s[d].2=q at *
   simp[go_sem,e1,r,p,j,T,g,qm,tk,pc];rw[if_pos (qQ _)];simp[go_sem,p,I,qm,tk];exact .hf _ (jt q (0,0))
  .rw [jC,if_neg hq]at t
   simp[go_sem,j,hm];refine qg.intro zKr ?_;simp[go_sem,e1,r,j,T,g,jM hq,w1,qm];exact⟨zOm,Keep.mk' ⟨zS1 e1,zS1 e3,zS1 r,zS1 p,zS1 I,zSi,zSi,t⟩⟩
 .have a2:d=s.length:=by omega
  subst a2;have j:st.tm 8=aI (-1):=by rw[j];congr 2;omega
  rw[yR]at t;rw[<-t]at i;simp only[jC]at i;have hN:=Xg c.ts (okNm.ofTS hc.ts) n.name;have U:=Xf c.ts n.name;rw[Xs hc.ts]at hN U;simp[go_sem,e3,r,j,hm];refine qc.pure hN (.zk (zn _) (.zs .nil)) ?_;have o:SetC (fin (aI 0 :: zs) (means c.ts n.name)):=U;generalize a3:means c.ts n.name=ms at *
  match ms,a3 with
  | [],_ =>
   simp only[endR]at i;subst i;generalize fin (aI 0 :: zs) []=C at *
   simp[go_sem,o.len];rw[if_pos o.one];simp[go_sem];refine qg.seg [0,1,2,3,4,5] [(0,0,[]),(1,0,[]),(2,0,[]),(3,0,[]),(4,1,[2]),(5,1,[])] zKr zKr zSi ?_;simp[go_sem,r,p,I,kn,qm];exact .hf _ (jt zR (_,n.pos))
  | [k],_ =>
   simp only[endR]at i;subst i;have e:fin (aI 0 :: zs) [k]=aI (qi k).1 :: hB (qi k).2:=rfl;rw[e]at o⊢;generalize qi k=q at *
   simp[go_sem,o.len];rw[if_pos (qQ _)];generalize hP:putCells _ 0 (aI q.1 :: hB q.2)=P;have a4:P=aI q.1 :: hB q.2:=by rw[<-hP];exact pc (aI 0) _ (fun _=>false) _
   subst a4;clear hP;simp[go_sem,p,o.len,qm,tk,pc];rw[if_pos (qQ _)];simp[go_sem,p,I,o.len,tk];exact .hf _ (jt q (0,0))
  |k1 :: k2 :: l,_ =>
   simp only[endR]at i;subst i;generalize fin (aI 0 :: zs) (k1 :: k2 :: l)=C at *
   simp[go_sem,o.len];rw[if_pos o.one];simp[go_sem];have a5:¬((l.length:Int)+1+1=0):=zOm;have a6:(1:Int)<(l.length:Int)+1+1:=zOm;simp[go_sem,a5,a6];refine qg.seg [0,1,2,3,4,5] [(0,0,[]),(1,0,[]),(2,0,[]),(3,0,[]),(4,1,[2]),(5,1,[])] zKr zKr zSi ?_;simp[go_sem,r,p,I,kn,qm];exact .hf _ (jt zR (_,n.pos))
end QL
namespace QM
open Y1
theorem qjE(n:Nd):qd qb 116 [eNd n] (aB (decide (30<=n.op))):=by
 refine qSV call116 func116 rfl ?_;by_cases h:30<=n.op
 .simp [go_sem,h];exact .zsc _
 .simp [go_sem,h];exact .zsc _
end QM
namespace QN
open Y1 Y2 YF Y9 P1 P2 QD QE QF QH QL
def setO:Option Kd->RS
 |some k=>qi k
 |none=>zR
abbrev lRS(l:List RS):AV := .lst false (l.map cRS)
theorem qjF(v:RS):∀ c,c∈cRS v->HF c:=fun c g=>((setC v).sc c g).2
theorem qjG(v:RS):∀ c,c∈cRS v->c.one=true:=fun c g=>((setC v).sc c g).1
theorem Xt(l:List RS):zg 65 (l.map cRS):=fun r g=>by
 obtain⟨v,_,rfl⟩:=qk.1 g;exact⟨by simp[hB],qJ.2 (qjG v)⟩
theorem appRS{mu:Mu}{lo:Nat}{s x:AV}{xs ys:List RS}{K:AV->Mu->Prop}(g:OwnF lo mu 65 s (xs.map cRS))(j:qH mu x=some (ys.map cRS))(t:xs.length+ys.length<=100000)(o:∀ av l,OwnF lo l 65 av ((xs++ys).map cRS)->(∀ i,i<lo->l[i]?=mu[i]?)->K av l) :
  qA qb mu #[244,244] s x K:=by
 refine qA.ownF (lo:=lo) (e:=191) (sz:=65) (bt:=72) (zv := .agg (aI 0 :: zs)) (xs:=xs.map cRS) (ys:=ys.map cRS) zSi zSi (by simp[go_sem];rfl) rfl rfl zOm zOm g j (Xt xs) (Xt ys) zSo ?_;intro av l h r;exact o av l (by rw[zd];exact h) r
theorem rdRS{lo:Nat}{mu:Mu}{av:AV}{l:List RS}(g:OwnF lo mu 65 av (l.map cRS)):Rd mu av (lRS l):=
 Own.rd (sz:=65) g.1 (Xt l).ok fun r i c j=>by
  obtain⟨v,_,rfl⟩:=qk.1 i;exact qjF v c j
theorem y0(s:RS)(b:Bool):HF (.tup [eRS s,aB b]):=HF.tup fun x g=>by
 rcases qu.1 g with rfl|g
 .exact zT s
 .rw [qN]at g;subst g;exact HF.sc _
def ApE(op:Int):Res->RS->Bool->Prop
 | .ok k,S,b=>b=true/\(kd op=101->∃ q,k=some q/\S=qi q)
 | .error _,S,b=>b=false
theorem wkS1(a:RS):WKs [eRS a] [eRS a] := .zk (zT _) .nil
theorem wkS2(a b:RS):WKs [eRS a,eRS b] [eRS a,eRS b] := .zk (zT _) (.zk (zT _) .nil)
theorem wkTI(ts:TS)(k:Int):WKs [eTS ts,aI k] [eTS ts,aI k] := .zk (zn _) (.zs .nil)
theorem mc(n:Int):eRS (n,fun _=>false)=eRS (qi ⟨n,[]⟩):=uU rfl fun j _=>(decide_eq_false fun h=>absurd h.2 qD).symm
def itS:Nat->RS->RS
 | 0,s=>s
 |i+1,s=>uniS (itS i s) (Qb (itS i s) (itS i s))
theorem me(s:RS):∀ i,(itS i s).1=s.1
 | 0=>rfl
 |i+1=>me s i
theorem mf(g:RS)(h:1<=g.1/\g.1<=3):qd qb 206 [eRS g] (eRS (itS 4 g)):=by
 refine qSQ call206 func206 rfl { mt:=[1] } ?_;simp[go_sem];refine⟨qQ _,?_⟩;refine qh.upK 4 (fun i st=>st.tm 1 = .ptr 0 0/\st.tm 2 = .ptr 1 0/\st.tm 3=aI i/\st.mu=[.arr (cRS (itS i g)),.arr (aI 0 :: hB fun _=>false)]) ?_ ?_
 .exact ⟨zSi,zSi,zSi,by simp[go_sem];exact⟨⟨rfl,rfl⟩,rfl⟩⟩
 rintro i st hi ⟨l,o,p,I⟩;by_cases r:i<4
 .have j:(i:Int)<4:=by omega
  have R:=zWk i;have T:=me g i;have U:=VD (itS i g) (itS i g) zOm zOm;have J:=vo (itS i g) (Qb (itS i g) (itS i g));have P:uniS (itS i g) (Qb (itS i g) (itS i g))=itS (i+1) g:=rfl;rw[P]at J;clear P;generalize t:itS (i+1) g=s' at *
  generalize Qb (itS i g) (itS i g)=q at *
  generalize itS i g=s at *
  simp[go_sem,p,I,j];refine qg.intro zKr ?_;simp[go_sem,l,qm,tk];refine qc.zP U (.zk (zT _) (.zk (zT _) .nil)) ?_;refine qc.pure J (.zk (zT _) (.zk (zT _) .nil)) ?_;simp[go_sem,l,qm,pc];rw[if_pos (qQ _)];simp[go_sem,p,R];exact⟨r,Keep.mk' ⟨zS1 l,zS1 o,zSi,zS1 t⟩⟩
 .have C:i=4:=by omega
  subst C;generalize itS 4 g=s at *
  simp[go_sem,l,o,p,I,qm,tk,pc];rw[if_pos (qQ _)];simp[go_sem,o,qm,tk];exact .hf _ (zT s)
def prC(ts:TS)(n:Nd)(l:List RS)(S:RS)(b:Bool):Prop:=qd qb 164 [eTS ts,eNd n,lRS l] (.tup [eRS S,aB b])
theorem ap2(ts:TS)(n:Nd)(L:List RS)(h:n.op=2):prC ts n L (n.n,fun _=>false) true:=by
 unfold prC;refine qSV call164 func164 rfl ?_;simp[go_sem,h];exact .hf _ (y0 (n.n,fun _=>false) true)
theorem ap3(ts:TS)(ok:okTS ts)(n:Nd)(L:List RS)(h:n.op=3):prC ts n L (qi (zt ts.sorts.length 1)) true:=by
 unfold prC;refine qSV call164 func164 rfl ?_;have c1:=allU ts ok 1 zOm;generalize qi (zt ts.sorts.length 1)=q at *
 simp[go_sem,h];refine qc.pure c1 (wkTI ts 1) ?_;simp[go_sem,qm];rw[if_pos (qQ _)];generalize i:putCells _ 0 (aI q.1 :: hB q.2)=P;have g:P=aI q.1 :: hB q.2:=by rw[<-i];exact pc (aI 0) _ (fun _=>false) _
 subst g;clear i;simp[go_sem,qm,tk];exact .hf _ (y0 q _)
theorem ap4(ts:TS)(ok:okTS ts)(n:Nd)(L:List RS)(h:n.op=4):prC ts n L (qi (zt ts.sorts.length 2)) true:=by
 unfold prC;refine qSV call164 func164 rfl ?_;have c1:=allU ts ok 2 zOm;generalize qi (zt ts.sorts.length 2)=q at *
 simp[go_sem,h];refine qc.pure c1 (wkTI ts 2) ?_;simp[go_sem,qm];rw[if_pos (qQ _)];generalize i:putCells _ 0 (aI q.1 :: hB q.2)=P;have g:P=aI q.1 :: hB q.2:=by rw[<-i];exact pc (aI 0) _ (fun _=>false) _
 subst g;clear i;simp[go_sem,qm,tk];exact .hf _ (y0 q _)
theorem ap5(ts:TS)(n:Nd)(q:RS)(h:n.op=5):prC ts n [q] q true:=by
 unfold prC;refine qSV call164 func164 rfl ?_;simp[go_sem,h,qm,tk];rw[if_pos (qQ _)];generalize i:putCells _ 0 (aI q.1 :: hB q.2)=P;have g:P=aI q.1 :: hB q.2:=by rw[<-i];exact pc (aI 0) _ (fun _=>false) _
 subst g;clear i;simp[go_sem,qm,tk];exact .hf _ (y0 q _)
theorem ap6(ts:TS)(n:Nd)(q r S:RS)(h:n.op=6)(c:qd qb 201 [eRS q,eRS r] (eRS S)):prC ts n [q,r] S (decide (q.1=r.1)):=by
 unfold prC;refine qSV call164 func164 rfl ?_;simp[go_sem,h];refine qg.seg [0,1,2,3,4,5,7,8,9,10,11,12,13,14,15,17,6,16] [(0,0,[]),(1,0,[]),(2,0,[]),(3,0,[]),(4,0,[]),(5,0,[]),(7,0,[]),(8,0,[]),(9,0,[]),(10,0,[]),(11,0,[]),(12,0,[]),(13,0,[]),(14,0,[]),(15,0,[]),(17,0,[]),(6,1,[10,14]),(16,1,[10,14])] zKr zKr zSi ?_;simp[go_sem,qm,tk];refine qc.pure c (wkS2 q r) ?_;simp[go_sem,qm];rw[if_pos (qQ _)];generalize i:putCells _ 0 (aI S.1 :: hB S.2)=P;have g:P=aI S.1 :: hB S.2:=by rw[<-i];exact pc (aI 0) _ (fun _=>false) _
 subst g;clear i;simp[go_sem,qm,tk];exact .hf _ (y0 S _)
theorem ap14(ts:TS)(n:Nd)(q r S:RS)(h:n.op=14)(c:qd qb 201 [eRS q,eRS r] (eRS S)):prC ts n [q,r] S (decide (q.1=r.1)):=by
 unfold prC;refine qSV call164 func164 rfl ?_;simp[go_sem,h];refine qg.seg [0,1,2,3,4,5,7,8,9,10,11,12,13,14,15,17,6,16] [(0,0,[]),(1,0,[]),(2,0,[]),(3,0,[]),(4,0,[]),(5,0,[]),(7,0,[]),(8,0,[]),(9,0,[]),(10,0,[]),(11,0,[]),(12,0,[]),(13,0,[]),(14,0,[]),(15,0,[]),(17,0,[]),(6,1,[10,14]),(16,1,[10,14])] zKr zKr zSi ?_;simp[go_sem,qm,tk];refine qc.pure c (wkS2 q r) ?_;simp[go_sem,qm];rw[if_pos (qQ _)];generalize i:putCells _ 0 (aI S.1 :: hB S.2)=P;have g:P=aI S.1 :: hB S.2:=by rw[<-i];exact pc (aI 0) _ (fun _=>false) _
 subst g;clear i;simp[go_sem,qm,tk];exact .hf _ (y0 S _)
theorem ap7(ts:TS)(n:Nd)(q r S:RS)(h:n.op=7)(c:qd qb 202 [eRS q,eRS r] (eRS S)):prC ts n [q,r] S (decide (q.1=r.1)):=by
 unfold prC;refine qSV call164 func164 rfl ?_;simp[go_sem,h];refine qg.seg [0,1,2,3,4,5,7,8,9,10,11,12,13,14,15,17,6,16] [(0,0,[]),(1,0,[]),(2,0,[]),(3,0,[]),(4,0,[]),(5,0,[]),(7,0,[]),(8,0,[]),(9,0,[]),(10,0,[]),(11,0,[]),(12,0,[]),(13,0,[]),(14,0,[]),(15,0,[]),(17,0,[]),(6,1,[10,14]),(16,1,[10,14])] zKr zKr zSi ?_;simp[go_sem,qm,tk];refine qc.pure c (wkS2 q r) ?_;simp[go_sem,qm];rw[if_pos (qQ _)];generalize i:putCells _ 0 (aI S.1 :: hB S.2)=P;have g:P=aI S.1 :: hB S.2:=by rw[<-i];exact pc (aI 0) _ (fun _=>false) _
 subst g;clear i;simp[go_sem,qm,tk];exact .hf _ (y0 S _)
theorem ap8(ts:TS)(n:Nd)(q r:RS)(h:n.op=8):prC ts n [q,r] q (decide (q.1=r.1)):=by
 unfold prC;refine qSV call164 func164 rfl ?_;simp[go_sem,h];refine qg.seg [0,1,2,3,4,5,6,7,8,9,10,11,13,12] [(0,0,[]),(1,0,[]),(2,0,[]),(3,0,[]),(4,0,[]),(5,0,[]),(6,0,[]),(7,0,[]),(8,0,[]),(9,0,[]),(10,0,[]),(11,0,[]),(13,0,[]),(12,1,[6,10])] zKr zKr zSi ?_;simp[go_sem,qm,tk];rw[if_pos (qQ _)];generalize i:putCells _ 0 (aI q.1 :: hB q.2)=P;have g:P=aI q.1 :: hB q.2:=by rw[<-i];exact pc (aI 0) _ (fun _=>false) _
 subst g;clear i;simp[go_sem,qm,tk];exact .hf _ (y0 q _)
theorem ap32(ts:TS)(n:Nd)(q r:RS)(h:n.op=32):prC ts n [q,r] zR (decide (q.1=r.1)):=by
 unfold prC;refine qSV call164 func164 rfl ?_;simp[go_sem,h];refine qg.seg [0,1,2,3,4,5,6,7,8,9,11,10] [(0,0,[]),(1,0,[]),(2,0,[]),(3,0,[]),(4,0,[]),(5,0,[]),(6,0,[]),(7,0,[]),(8,0,[]),(9,0,[]),(11,0,[]),(10,1,[4,8])] zKr zKr zSi ?_;simp[go_sem,qm];exact .hf _ (y0 zR _)
theorem ap33(ts:TS)(n:Nd)(q r:RS)(h:n.op=33):prC ts n [q,r] zR (decide (q.1=r.1)):=by
 unfold prC;refine qSV call164 func164 rfl ?_;simp[go_sem,h];refine qg.seg [0,1,2,3,4,5,6,7,8,9,11,10] [(0,0,[]),(1,0,[]),(2,0,[]),(3,0,[]),(4,0,[]),(5,0,[]),(6,0,[]),(7,0,[]),(8,0,[]),(9,0,[]),(11,0,[]),(10,1,[4,8])] zKr zKr zSi ?_;simp[go_sem,qm];exact .hf _ (y0 zR _)
theorem ap9(ts:TS)(n:Nd)(q r S:RS)(h:n.op=9)(p:0<=q.1/\q.1<=1000)(t:0<=r.1/\r.1<=1000)(c:qd qb 203 [eRS q,eRS r] (eRS S)):prC ts n [q,r] S (decide (1<=q.1+r.1-2/\q.1+r.1-2<=3)):=by
 unfold prC;refine qSV call164 func164 rfl ?_;have l:qs.wrap (q.1+r.1)=q.1+r.1:=zWr;have o:qs.wrap (q.1+r.1-2)=q.1+r.1-2:=zWr;simp[go_sem,h];refine qg.intro zKr ?_;simp[go_sem,qm,l,o];refine qg.intro zKr ?_;by_cases j:1<=q.1+r.1-2
 .simp [go_sem,qm,tk,j]
  refine qc.pure c (wkS2 q r) ?_;simp[go_sem,qm,j];rw[if_pos (qQ _)];generalize i:putCells _ 0 (aI S.1 :: hB S.2)=P;have g:P=aI S.1 :: hB S.2:=by rw[<-i];exact pc (aI 0) _ (fun _=>false) _
  subst g;clear i;simp[go_sem,qm,tk];exact .hf _ (y0 S _)
 .simp [go_sem,qm,tk,j]
  refine qc.pure c (wkS2 q r) ?_;simp[go_sem,qm,j];rw[if_pos (qQ _)];generalize i:putCells _ 0 (aI S.1 :: hB S.2)=P;have g:P=aI S.1 :: hB S.2:=by rw[<-i];exact pc (aI 0) _ (fun _=>false) _
  subst g;clear i;simp[go_sem,qm,tk];exact .hf _ (y0 S _)
theorem ap10(ts:TS)(n:Nd)(q r S:RS)(h:n.op=10)(l:0<=q.1/\q.1<=1000)(o:0<=r.1/\r.1<=1000)(c:qd qb 204 [eRS q,eRS r] (eRS S)):prC ts n [q,r] S (decide (q.1+r.1<=3)):=by
 unfold prC;refine qSV call164 func164 rfl ?_;have j:qs.wrap (q.1+r.1)=q.1+r.1:=zWr;simp[go_sem,h];refine qg.seg [0,1,2,3,4,5,7,8,9,10,11,12,13,14,15,16,18,6,17] [(0,0,[]),(1,0,[]),(2,0,[]),(3,0,[]),(4,0,[]),(5,0,[]),(7,0,[]),(8,0,[]),(9,0,[]),(10,0,[]),(11,0,[]),(12,0,[]),(13,0,[]),(14,0,[]),(15,0,[]),(16,0,[]),(18,0,[]),(6,1,[10,14]),(17,1,[10,14])] zKr zKr zSi ?_;simp[go_sem,qm,tk,j];refine qc.pure c (wkS2 q r) ?_;simp[go_sem,qm];rw[if_pos (qQ _)];generalize i:putCells _ 0 (aI S.1 :: hB S.2)=P;have g:P=aI S.1 :: hB S.2:=by rw[<-i];exact pc (aI 0) _ (fun _=>false) _
 subst g;clear i;simp[go_sem,qm,tk];exact .hf _ (y0 S _)
theorem ap11(ts:TS)(n:Nd)(q S:RS)(h:n.op=11)(c:qd qb 205 [eRS q] (eRS S)):prC ts n [q] S (decide (q.1=2)):=by
 unfold prC;refine qSV call164 func164 rfl ?_;simp[go_sem,h];refine qg.seg [0,1,2,4,5,6,7,8,10,3,9] [(0,0,[]),(1,0,[]),(2,0,[]),(4,0,[]),(5,0,[]),(6,0,[]),(7,0,[]),(8,0,[]),(10,0,[]),(3,1,[7]),(9,1,[7])] zKr zKr zSi ?_;simp[go_sem,qm,tk];refine qc.pure c (wkS1 q) ?_;simp[go_sem,qm];rw[if_pos (qQ _)];generalize i:putCells _ 0 (aI S.1 :: hB S.2)=P;have g:P=aI S.1 :: hB S.2:=by rw[<-i];exact pc (aI 0) _ (fun _=>false) _
 subst g;clear i;simp[go_sem,qm,tk];exact .hf _ (y0 S _)
theorem ap12(ts:TS)(n:Nd)(q S:RS)(h:n.op=12)(c:qd qb 206 [eRS q] (eRS S)):prC ts n [q] S (decide (q.1=2)):=by
 unfold prC;refine qSV call164 func164 rfl ?_;simp[go_sem,h];refine qg.seg [0,1,2,4,5,6,7,8,10,3,9] [(0,0,[]),(1,0,[]),(2,0,[]),(4,0,[]),(5,0,[]),(6,0,[]),(7,0,[]),(8,0,[]),(10,0,[]),(3,1,[7]),(9,1,[7])] zKr zKr zSi ?_;simp[go_sem,qm,tk];refine qc.pure c (wkS1 q) ?_;simp[go_sem,qm];rw[if_pos (qQ _)];generalize i:putCells _ 0 (aI S.1 :: hB S.2)=P;have g:P=aI S.1 :: hB S.2:=by rw[<-i];exact pc (aI 0) _ (fun _=>false) _
 subst g;clear i;simp[go_sem,qm,tk];exact .hf _ (y0 S _)
theorem ap13(ts:TS)(ok:okTS ts)(n:Nd)(q C S:RS)(h:n.op=13)(c:qd qb 206 [eRS q] (eRS C))(c2:qd qb 201 [eRS C,eRS (qi (zt ts.sorts.length 2))] (eRS S)):prC ts n [q] S (decide (q.1=2)):=by
 unfold prC;refine qSV call164 func164 rfl ?_;have c1:=allU ts ok 2 zOm;generalize qi (zt ts.sorts.length 2)=D at *
 simp[go_sem,h];refine qg.seg [0,1,2,4,7,8,9,10,11,13,3,5,6,12] [(0,0,[]),(1,0,[]),(2,0,[]),(4,0,[]),(7,0,[]),(8,0,[]),(9,0,[]),(10,0,[]),(11,0,[]),(13,0,[]),(3,1,[4,10]),(5,1,[10]),(6,1,[10]),(12,1,[10])] zKr zKr zSi ?_;simp[go_sem,qm,tk];refine qc.pure c (wkS1 q) ?_;simp[go_sem,qm];refine qc.pure c1 (wkTI ts 2) ?_;simp[go_sem,qm];refine qc.pure c2 (wkS2 C D) ?_;simp[go_sem,qm];rw[if_pos (qQ _)];generalize i:putCells _ 0 (aI S.1 :: hB S.2)=P;have g:P=aI S.1 :: hB S.2:=by rw[<-i];exact pc (aI 0) _ (fun _=>false) _
 subst g;clear i;simp[go_sem,qm,tk];exact .hf _ (y0 S _)
theorem apO(ts:TS)(n:Nd)(L:List RS)(t:n.op≠2)(C:n.op≠3)(I:n.op≠4)(J:n.op≠5)(P:n.op≠6)(g:n.op≠14)(R:n.op≠7)(T:n.op≠8)(i:n.op≠32)(j:n.op≠33)(U:n.op≠9)(l:n.op≠10)(o:n.op≠11)(p:n.op≠12)(r:n.op≠13):prC ts n L zR true:=by
 unfold prC;refine qSV call164 func164 rfl ?_;simp[go_sem,t,C,I,J,P,g,R,T,i,j,U,l,o,p,r];exact .hf _ (y0 zR true)
end QN
namespace QO
open YF Y9 Y10 Y1 Y2 Y3 Y12 Y13 P1 P2 QD QE QF QH QI QJ QL QN PG PC
section
variable {nm:ByteArray}{ts:TS}
theorem mi{n:Nd}{L:List RS}{S g:RS}{b:Bool}(e:eRS S=eRS g)(h:prC ts n L S b):prC ts n L g b:=by
 unfold prC at h⊢;rw[<-e];exact h
theorem qjH{n:Nd}{a b:Kd}(j:n.op=6\/n.op=14\/n.op=7\/n.op=8\/n.op=32\/n.op=33):∃ S,prC ts n [qi a,qi b] S (decide (a.ar=b.ar))/\(a.ar=b.ar->kd n.op=101->S=qi (vZ n.op a b)):=by
 have l:∀ op:Int,op=6\/op=14->vZ op a b=kSum a b:=fun op h=>by unfold vZ;rw[if_pos h]
 by_cases g:a.ar=b.ar
 .rcases j with h|h|h|h|h|h
  .exact ⟨_,ap6 ts n _ _ _ h (by have:=vo (qi a) (qi b);rw[Yu g]at this;exact this),fun _ _=>by rw[h,l 6 (.inl rfl)]⟩
  .exact ⟨_,ap14 ts n _ _ _ h (by have:=vo (qi a) (qi b);rw[Yu g]at this;exact this),fun _ _=>by rw[h,l 14 (.inr rfl)]⟩
  .exact ⟨_,ap7 ts n _ _ _ h (by have:=nP (qi a) (qi b);rw[qiV g]at this;exact this),fun _ _=>by rw[h];rfl⟩
  .exact ⟨_,ap8 ts n _ _ h,fun _ _=>by rw[h];rfl⟩
  .exact ⟨_,ap32 ts n _ _ h,fun _ i=>by rw[h]at i;exact absurd i zDe⟩
  .exact ⟨_,ap33 ts n _ _ h,fun _ i=>by rw[h]at i;exact absurd i zDe⟩
 .rcases j with h|h|h|h|h|h
  .exact ⟨_,ap6 ts n _ _ _ h (vo (qi a) (qi b)),fun e=>absurd e g⟩
  .exact ⟨_,ap14 ts n _ _ _ h (vo (qi a) (qi b)),fun e=>absurd e g⟩
  .exact ⟨_,ap7 ts n _ _ _ h (nP (qi a) (qi b)),fun e=>absurd e g⟩
  .exact ⟨_,ap8 ts n _ _ h,fun e=>absurd e g⟩
  .exact ⟨_,ap32 ts n _ _ h,fun e=>absurd e g⟩
  .exact ⟨_,ap33 ts n _ _ h,fun e=>absurd e g⟩
theorem qjI(ok:okTS ts){n:Nd}{a:Kd}(l:okKd ts.sorts.length a)(o:n.op=11\/n.op=12\/n.op=13):∃ S,prC ts n [qi a] S (decide (a.ar=2))/\(a.ar=2->S=qi (binK ts.sorts.length n.op a)):=by
 have i:=ok.ns;by_cases g:a.ar=2
 .have p:=qi6 l g i
  rcases o with h|h|h
  .exact ⟨_,ap11 ts n _ _ h (by have:=nQ (qi a);rw[qi1 l i g]at this;exact this),fun _=>by rw[h];rfl⟩
  .exact ⟨_,ap12 ts n _ _ h p,fun _=>by rw[h];rfl⟩
  .refine ⟨_,ap13 ts ok n _ _ (qi (kSum (kClo a) (zt ts.sorts.length 2))) h p ?_,fun _=>by rw[h];rfl⟩
   have:=vo (qi (kClo a)) (qi (zt ts.sorts.length 2));rw[Yu (show (kClo a).ar=2 from (J3 l g).2)]at this;exact this
 .have j:=l.ar
  rcases o with h|h|h
  .exact ⟨_,ap11 ts n _ _ h (nQ (qi a)),fun e=>absurd e g⟩
  .exact ⟨_,ap12 ts n _ _ h (mf (qi a) j),fun e=>absurd e g⟩
  .exact ⟨_,ap13 ts ok n _ _ _ h (mf (qi a) j) (vo _ _),fun e=>absurd e g⟩
theorem qjJ(ts:TS)(ok:okTS ts)(n:Nd)(l:List (Option Kd))(L:List RS)(e1:n.op≠1)(a0:n.op≠15)
  (h1:n.op=5\/n.op=11\/n.op=12\/n.op=13->∃ a,l=[some a]/\L=[qi a]/\okKd ts.sorts.length a)
  (h2:n.op=6\/n.op=14\/n.op=7\/n.op=8\/n.op=32\/n.op=33\/n.op=9\/n.op=10->∃ a b,l=[some a,some b]/\L=[qi a,qi b]/\okKd ts.sorts.length a/\okKd ts.sorts.length b) :
  ∃ S b,prC ts n L S b/\ApE n.op (zG ts.sorts.length n.op n.n n.pos l) S b:=by
 have t:=ok.ns;by_cases j:n.op=2
 .refine ⟨qi ⟨n.n,[]⟩,true,mi (mc n.n) (ap2 ts n L j),?_⟩
  unfold zG;rw[if_pos j];exact⟨rfl,fun _=>⟨_,rfl,rfl⟩⟩
 by_cases o:n.op=3
 .refine ⟨_,true,ap3 ts ok n L o,?_⟩
  unfold zG;rw[if_neg j,if_pos o];exact⟨rfl,fun _=>⟨_,rfl,rfl⟩⟩
 by_cases r:n.op=4
 .refine ⟨_,true,ap4 ts ok n L r,?_⟩
  unfold zG;rw[if_neg j,if_neg o,if_pos r];exact⟨rfl,fun _=>⟨_,rfl,rfl⟩⟩
 by_cases g1:n.op=5\/n.op=11\/n.op=12\/n.op=13
 .obtain ⟨a,rfl,rfl,C⟩:=h1 g1
  rw[apK1,if_neg j,if_neg o,if_neg r];by_cases J:n.op=5
  .rw [if_pos J]
   exact⟨_,true,ap5 ts n _ J,rfl,fun _=>⟨_,rfl,rfl⟩⟩
  have g:n.op=11\/n.op=12\/n.op=13:=zOm;rw[if_neg J,if_pos g];obtain⟨S,P,R⟩:=qjI ok C g;refine⟨S,_,P,?_⟩;by_cases i:a.ar=2
  .rw [if_pos i]
   exact⟨decide_eq_true i,fun _=>⟨_,rfl,R i⟩⟩
  .rw [if_neg i]
   exact decide_eq_false i
 by_cases g2:n.op=6\/n.op=14\/n.op=7\/n.op=8\/n.op=32\/n.op=33\/n.op=9\/n.op=10
 .obtain ⟨a,b,rfl,rfl,C,T⟩:=h2 g2
  have ra:=C.ar;have rb:=T.ar;rw[apK2,if_neg j,if_neg o,if_neg r];by_cases U:n.op=6\/n.op=14\/n.op=7\/n.op=8\/n.op=32\/n.op=33
  .rw [if_pos U]
   obtain⟨S,P,R⟩:=qjH (ts:=ts) (n:=n) (a:=a) (b:=b) U;refine⟨S,_,P,?_⟩;by_cases i:a.ar=b.ar
   .rw [if_pos i]
    exact⟨decide_eq_true i,fun hk=>⟨_,rfl,R i hk⟩⟩
   .rw [if_neg i]
    exact decide_eq_false i
  rw[if_neg U];by_cases I:n.op=9
  .rw [if_pos I]
   by_cases i:1<=a.ar+b.ar-2/\a.ar+b.ar-2<=3
   .rw [if_pos i]
    refine⟨_,_,ap9 ts n _ _ (qi (zA a b)) I (by show 0<=a.ar/\a.ar<=1000;omega) (by show 0<=b.ar/\b.ar<=1000;omega) ?_,decide_eq_true i,fun _=>⟨_,rfl,rfl⟩⟩;rw[<-nW C T t i];exact VD _ _ (by show 0<=a.ar/\a.ar<=1000;omega) (by show 1<=b.ar/\b.ar<=1000;omega)
   .rw [if_neg i]
    exact⟨_,_,ap9 ts n _ _ _ I (by show 0<=a.ar/\a.ar<=1000;omega) (by show 0<=b.ar/\b.ar<=1000;omega) (VD _ _ (by show 0<=a.ar/\a.ar<=1000;omega) (by show 1<=b.ar/\b.ar<=1000;omega)),decide_eq_false i⟩
  have p:n.op=10:=zOm;rw[if_neg I,if_pos p];by_cases i:a.ar+b.ar<=3
  .rw [if_pos i]
   refine⟨_,_,ap10 ts n _ _ (qi (vX a b)) p (by show 0<=a.ar/\a.ar<=1000;omega) (by show 0<=b.ar/\b.ar<=1000;omega) ?_,decide_eq_true i,fun _=>⟨_,rfl,rfl⟩⟩;rw[<-qiW C T t i];exact nR _ _ (by show 0<=a.ar/\a.ar<=1000;omega) (by show 0<=b.ar/\b.ar<=1000;omega)
  .rw [if_neg i]
   exact⟨_,_,ap10 ts n _ _ _ p (by show 0<=a.ar/\a.ar<=1000;omega) (by show 0<=b.ar/\b.ar<=1000;omega) (nR _ _ (by show 0<=a.ar/\a.ar<=1000;omega) (by show 0<=b.ar/\b.ar<=1000;omega)),decide_eq_false i⟩
 refine⟨zR,true,apO ts n L j o r zOm zOm zOm zOm zOm zOm zOm zOm zOm zOm zOm zOm,?_⟩;rw[Wd j o r zOm zOm zOm zOm zOm zOm zOm zOm zOm zOm zOm zOm];refine⟨rfl,fun hk=>?_⟩;have:=J5 hk;omega
theorem qjK{ns:Nat}(o:ns<=4){q:Kd}(h:okKd ns q)(l:q.ar=1)(i:Int):wY i q=true↔∀ k:Nat,k<4->(qi q).2 k=true->(k:Int)=i:=by
 unfold wY;rw[qJ];constructor
 .intro p k J r
  rw[ya,l]at r;have:=p _ r.2;simpa[dig,pad] using this
 .intro p t C
  obtain⟨j,I,e⟩:=Zm h o C;rw[l]at I e;have g:j<4:=I;have:=p j g ((ya q j).2 ⟨by rw[l];exact g,by rw[l,<-e];exact C⟩);rw[e];simp[dig,pad,this]
def ExR(c:Ck)(s:Scp)(inn:Bool)(n:Nd):Prop:=∃ S:RS,qd qb 117 [eVw c inn,lVr (envS s),eNd n] (.tup [eRS S,eDg (dgOf (exam c s inn n))])/\(kd n.op=101->∀ q,exam c s inn n = .ok (some q)->S=qi q)
theorem mj(c:Ck)(inn:Bool):HF (eVw c inn):=HF.agg fun x g=>by
 simp only[qu,qD,or_false]at g;rcases g with rfl|rfl|rfl|rfl|rfl|rfl|rfl
 .exact kz _
 .exact U1 _
 .exact kx _
 .exact ky _
 .exact Yz _
 .exact HF.sc _
 .exact HF.sc _
theorem wkE(c:Ck)(inn:Bool)(l:List Vr)(n:Nd):WKs [eVw c inn,lVr l,eNd n] [eVw c inn,lVr l,eNd n] := .zk (mj c inn) (.zk (qjC _) (.zk (za n) .nil))
theorem uh(d:Dg):HF (eDg d):=HF.agg fun x g=>by
 simp only[qu,qD,or_false]at g;rcases g with rfl|rfl<;>exact HF.sc _
theorem mm{c:Ck}{p:Nat}(i:okCk c)(h:zb c nm=some p):(c.ts.preds.any fun p=>decide (p.name=nm))=true:=by
 obtain⟨_,j⟩:=Qy i h;unfold zb at h;rw[List.findIdx?_eq_some_iff_getElem]at h;obtain⟨l,g,_⟩:=h;simp only[List.getElem_take]at g;exact List.any_eq_true.2 ⟨_,qt j,g⟩
theorem qjL(h:zb (mkCk ts ts.preds.length) nm=none):(ts.preds.any fun p=>decide (p.name=nm))=false:=by
 unfold zb at h;rw[List.findIdx?_eq_none_iff]at h;rw[List.any_eq_false];intro p g;have:p∈ts.preds.take ts.preds.length:=by rw[qX];exact g
 have:=h p this;simpa using this
theorem W9{n:Nd}(i:WfN n)(h:n.op=47):∀ k,k∈n.kids->kd k.op=101:=by
 have g:=i.shape;have e:shp n.op n.kids.length=some (zp (min n.kids.length 401) 101):=by
  unfold shp;rw[zIn,zIn,zIn,zIn,zIn,zIn,zIn,if_pos h]
 rw[e]at g;simp only[qj]at g;intro k j;have:kd k.op∈n.kids.map fun k=>kd k.op:=qk.2 ⟨k,j,rfl⟩
 rw[<-g]at this;exact List.eq_of_mem_replicate this
theorem qjM(c:Ck)(hc:okCk c)(s:Scp)(hs:ScOk c.ts.sorts.length s)(n:Nd)(hw:WfN n)(b0:n.op=47)(ih:∀ k,k∈n.kids->ExR c s true k)(inn:Bool) :
  qd qb 162 [eVw c inn,lVr (envS s),eNd n] (eDg (dgOf (Ye c s n))):=by
 generalize hR:Ye c s n=R;unfold Ye at hR;refine qSQ call162 func162 rfl { mt:=[3] } ?_;have be:=hc.ts.np;have bg:=hw.len;have b1:=Yy c hc n.name;have b2:=Yy (mkCk c.ts c.ts.preds.length) (uM hc.ts (qn _)) n.name;have an:∀ k:Int,WKs [eTS c.ts,aI k,aS n.name] [eTS c.ts,aI k,aS n.name]:=fun k => .zk (zn _) (.zs (.zs .nil))
 simp[go_sem];refine qc.pure b1 (an _) ?_;cases T:zb c n.name with
 |none =>
  rw[T]at hR;simp[go_sem,idxO];refine qc.pure b2 (an _) ?_;cases a2:zb (mkCk c.ts c.ts.preds.length) n.name with
  |none =>
   rw[qjL a2]at hR;subst hR;simp[go_sem,idxO,dgOf];exact .hf _ (uh (40,n.pos))
  |some p =>
   have ha:(c.ts.preds.any fun p=>decide (p.name=n.name))=true:=mm (c:=mkCk c.ts c.ts.preds.length) (uM hc.ts (qn _)) a2;rw[ha]at hR;subst hR;have aa:¬(p:Int)<0:=zOm;simp[go_sem,idxO,dgOf,aa];exact .hf _ (uh (45,n.pos))
 |some p =>
  obtain⟨_,ab⟩:=Qy hc T;rw[mm hc T,if_pos rfl,T]at hR;simp only[qv ab]at hR;have aa:¬(p:Int)<0:=zOm;have b3:=hc.ts.pl _ (qt ab);simp[go_sem,idxO,ab,aa];generalize bh:c.ts.preds[p]=C at *
  by_cases a0:C.params.length=n.kids.length
  .rw [if_pos a0]at hR
   simp[go_sem,a0];have b4:=W9 hw b0;refine qh.upK C.params.length (fun k st=>st.tm 1=lVr (envS s)/\st.tm 3 = .ptr 0 0/\st.tm 5 = .ip (cNd n)/\st.tm 6 = .ptr 1 0/\st.tm 8=lPm C.params/\st.tm 9=aI k/\st.mu[0]?=some (.arr (cVw c true))/\st.mu[1]?=some (.arr [aI 0,aI 0])/\z6 c s n.pos (C.params.drop k) (n.kids.drop k)=R) ?_ ?_
   .exact ⟨zSi,zSi,zSi,zSi,zSi,zSi,zSi,zSi,zUs hR⟩
   rintro k st hk ⟨e1,e3,e5,e6,e8,e9,m0,m1,t⟩;have a7:1<st.mu.length:=(qe.1 m1).1;have I:∀(l:List Cell) (i:Nat),i<st.mu.length->(st.mu++l)[i]?=st.mu[i]?:=fun l i hi=>qI hi
   have U:∀ c,(st.mu.set 1 c)[1]?=some c:=fun c=>zo a7
   have ad:∀ c (l:List Cell),((st.mu++l).set 1 c)[1]?=some c:=fun c l=>zo zSo
   have ae:∀(l:List Cell) (h:0<(st.mu++l).length),(st.mu++l)[0] = .arr (cVw c true):=fun l h=>by
    rw[XI zOm];exact(qe.1 m0).2
   have af:∀(l:List Cell) (h:1<(st.mu++l).length),(st.mu++l)[1] = .arr [aI 0,aI 0]:=fun l h=>by
    rw[XI zOm];exact(qe.1 m1).2
   by_cases ao:k=C.params.length
   .subst ao
    rw[yR,a0,yR]at t;simp only[z6]at t;subst t;simp[go_sem,e6,e8,e9,m1,a0,dgOf,U];exact .hf _ (uh (0,0))
   have o:k<C.params.length:=zOm;have r:k<n.kids.length:=zOm;have w1:=zWk k;obtain⟨S,hi,hS⟩:=ih n.kids[k] (qt r);rw[zD o,zD r]at t;simp only[z6]at t;have b5:=uN hc (szN n.kids[k]) n.kids[k] s true;have aq:=b4 n.kids[k] (qt r);have au:=hw.kid (qt r);simp[go_sem,e8,e9,o];refine qg.seg [0,1,2,3,4,5,6,7,8,9,10,11,12,13,14] [(0,0,[]),(1,0,[]),(2,0,[]),(3,0,[]),(4,0,[]),(5,0,[]),(6,0,[]),(7,1,[]),(8,0,[]),(9,0,[]),(10,0,[]),(11,2,[0,3,6]),(12,2,[0,3,6]),(13,1,[]),(14,1,[])] zKr zKr zSi ?_;simp[go_sem,e1,e3,e5,e9,m0,r];refine qc.pure hi (wkE c true _ _) ?_;cases hx:exam c s true n.kids[k] with
   |error e =>
    rw[hx]at t;subst t;have he:=Yq c (szN n.kids[k]) n.kids[k] s true e (qn _) hx;have b6:¬e.1=0:=zOm;simp[go_sem,e3,qm,ae,dgOf];rw[if_pos (qQ _)];generalize hP:putCells _ 0 (aI S.1 :: hB S.2)=P;have ag:P=aI S.1 :: hB S.2:=by rw[<-hP];exact pc (aI 0) _ (fun _=>false) _
    subst ag;clear hP;simp[go_sem,e6,b6];simp[go_sem,af,e6];exact .hf _ (uh e)
   |ok ko =>
    obtain⟨q,rfl,hq⟩:=b5 ko (qn _) au hs hx aq;have b7:=hS aq q hx;subst b7;rw[hx]at t;simp only at t;have b8:=hc.ts.ns;have av:(qi q).1=q.ar:=rfl;have aw:=fun h=>qjK b8 hq h C.params[k].2
    generalize qi q=Q at *
    simp[go_sem,e3,qm,ae,dgOf];rw[if_pos (qQ _)];generalize hP:putCells _ 0 (aI Q.1 :: hB Q.2)=P;have ag:P=aI Q.1 :: hB Q.2:=by rw[<-hP];exact pc (aI 0) _ (fun _=>false) _
    subst ag;clear hP;by_cases a1:q.ar=1
    .rw [if_pos a1]at t
     have a3:Q.1=1:=av.trans a1;simp[go_sem,qm,a3];have bc:C.params[k].2<4/\0<=C.params[k].2:=zW1 (b3.2 _ (qt o));refine qh.upK 4 (fun j g=>∃ b,2<=b/\g.tm 10 = .ptr b 0/\g.mu[b]?=some (.arr (aI 1 :: hB Q.2))/\g.tm 1=lVr (envS s)/\g.tm 3 = .ptr 0 0/\g.tm 5 = .ip (cNd n)/\g.tm 6 = .ptr 1 0/\g.tm 8=lPm C.params/\g.tm 9=aI k/\g.tm 12=aI j/\g.mu[0]?=some (.arr (cVw c true))/\g.mu[1]?=some (.arr [aI 0,aI 0]) /\
      ∀ i:Nat,i<j->Q.2 i=true->(i:Int)=C.params[k].2) ?_ ?_
     .exact ⟨st.mu.length,zOm,zSi,zSi,zS1 e1,zS1 e3,zS1 e5,zS1 e6,zS1 e8,zS1 e9,zSi,by simp only[zi];rw[I _ _ zOm];exact m0,by simp only[zi];rw[I _ _ zOm];exact m1,fun i hi=>zOm⟩
     .clear e1 e3 e5 e6 e8 e9 m0 m1 I U ad ae af a7
      rintro j st2 hj ⟨b,hb,a4,mb,e1,e3,e5,e6,e8,e9,a8,m0,m1,a5⟩;have a7:1<st2.mu.length:=(qe.1 m1).1;have U:∀ c,(st2.mu.set 1 c)[1]?=some c:=fun c=>zo a7
      by_cases ah:j<4
      .have ai:(j:Int)<4:=by omega
       have ax:j<64:=zOm;have J:(j:Int)<64:=zOm;have wj:=zWk j;have a6:=d1 (aI 1) Q.2 j ax;have aj:1+j<=64:=zOm;by_cases hQ:Q.2 j=true
       .rw [hQ]at a6
        by_cases a9:(j:Int)=C.params[k].2
        .have b9:=eq_true a9
         simp[go_sem,a4,mb,e8,e9,a8,ai,J,a6,aj,qm,o,b9,wj];refine⟨ah,Keep.mk' ⟨b,hb,zS1 a4,zS1 mb,zS1 e1,zS1 e3,zS1 e5,zS1 e6,zS1 e8,zS1 e9,zSi,zS1 m0,zS1 m1,fun i hi h=>?_⟩⟩;by_cases ak:i=j
         .subst ak;exact a9
         .exact a5 i zOm h
        .have ay:¬wY C.params[k].2 q=true:=fun h=>a9 ((aw a1).1 h j ah hQ)
         rw[if_neg ay]at t;subst t;simp[go_sem,a4,mb,e5,e6,e8,e9,a8,ai,J,a6,aj,qm,o,a9,m1,U];exact .hf _ (uh (43,n.pos))
       .have hQ:Q.2 j=false:=by simpa using hQ
        rw[hQ]at a6;simp[go_sem,a4,mb,a8,ai,J,a6,aj,qm,wj];refine⟨ah,Keep.mk' ⟨b,hb,zS1 a4,zS1 mb,zS1 e1,zS1 e3,zS1 e5,zS1 e6,zS1 e8,zS1 e9,zSi,zS1 m0,zS1 m1,fun i hi h=>?_⟩⟩;by_cases ak:i=j
        .subst ak;rw[hQ]at h;cases h
        .exact a5 i zOm h
      .have bb:j=4:=by omega
       subst bb;have al:wY C.params[k].2 q=true:=(aw a1).2 fun i hi h=>a5 i hi h
       rw[if_pos al]at t;simp[go_sem,e9,a8,w1];exact⟨o,Keep.mk' ⟨zS1 e1,zS1 e3,zS1 e5,zS1 e6,zS1 e8,zSi,zS1 m0,zS1 m1,t⟩⟩
    .rw [if_neg a1]at t
     subst t;have a3:¬Q.1=1:=fun e=>a1 (av.symm.trans e)
     simp[go_sem,e5,qm,a3,af,e6];exact .hf _ (uh (42,n.pos))
  .rw [if_neg a0]at hR
   subst hR;have az:¬n.kids.length=C.params.length:=fun e=>a0 e.symm
   simp[go_sem,az,dgOf];exact .hf _ (uh (45,n.pos))
end
end QO
namespace QR
open Y9 Y1 Y2 Y12 P1 P2 QE QF QJ QL QN PG QO
theorem VA{n:Nd}(i:WfN n)(h:n.op=15\/n.op=45\/n.op=46):∃ a f,n.kids=[a,f]/\kd a.op=101:=by
 have g:=i.shape;unfold shp at g;rw[zIn,zIn,zIn,if_pos zOm]at g;simp only[qj]at g
 match j:n.kids,g with
 | [a,f],g =>
  simp at g;exact⟨a,f,rfl,g.1.symm⟩
 | [],g=>simp at g
 | [_],g=>simp at g
 |_ :: _ :: _ :: _,g=>simp at g
theorem five{C:Type}{l:List C}{a b c d e:C}(g:l[0]?=some a)(i:l[1]?=some b)(j:l[2]?=some c)(o:l[3]?=some d)(p:l[4]?=some e):∃ r,l=a :: b :: c :: d :: e :: r:=by
 match l,g,i,j,o,p with
 |_ :: _ :: _ :: _ :: _ :: r,g,i,j,o,p =>
  simp at g i j o p;exact⟨r,by rw[g,i,j,o,p]⟩
def YJ:Res->RS
 | .ok (some k)=>if k.ar=1 then qi k else zR
 |_=>zR
theorem qjN(s:RS)(d:Dg):FL (.tup [eRS s,eDg d]):=FL.tup fun x i=>by
 rcases qu.1 i with rfl|i
 .exact FL.agg fun c g=>by
   rcases qu.1 g with rfl|g
   .exact FL.sc _
   .obtain ⟨j,_,rfl⟩:=qk.1 g
    exact FL.sc _
 .rw [qN]at i;subst i
  exact FL.agg fun c g=>by
   rcases qu.1 g with rfl|g
   .exact FL.sc _
   .rw [qN]at g;subst g;exact FL.sc _
theorem qjO(c:Ck)(hc:okCk c)(s:Scp)(hs:ScOk c.ts.sorts.length s)(ay:s.length<=90000)(n a g:Nd)(hw:WfN n)(hb:n.op=15\/n.op=45\/n.op=46)(t:n.kids=[a,g])(a6:kd a.op=101)(inn:Bool)
  (af:ExR c s (inn||decide (n.op=15)) a) (ag:∀ k,okKd c.ts.sorts.length k->k.ar=1->ExR c ((n.name,k) :: s) (inn||decide (n.op=15)) g) :
  qd qb 163 [eVw c inn,lVr (envS s),eNd n] (.tup [eRS (YJ (exam c s (inn||decide (n.op=15)) a)),eDg (dgOf (zH c s (inn||decide (n.op=15)) n.name n.pos n.kids))]):=by
 have wa:=hw.kid (k:=a) (by rw[t];simp);obtain⟨S,ca,hS⟩:=af;have ah:=uN hc (szN a) a s (inn||decide (n.op=15));have a7:=Yq c (szN a) a s (inn||decide (n.op=15));rw[t];have w1:=wkE c (inn||decide (n.op=15)) (envS s) a;have ai:n.op=15->(inn||decide (n.op=15))=true:=fun h=>zP1 h
 have aj:¬n.op=15->(inn||decide (n.op=15))=inn:=fun h=>zP1 h
 generalize (inn||decide (n.op=15))=B at *
 generalize hE:dgOf (zH c s B n.name n.pos [a,g])=E;generalize hX:exam c s B a=X at *
 have a8:∀ k,okKd c.ts.sorts.length k->k.ar=1->X = .ok (some k)->∃ S2,qd qb 117 [eVw c B,lVr (envS ((n.name,k) :: s)),eNd g] (.tup [eRS S2,eDg E]):=fun k hk p ak=>by
  obtain⟨S2,cg,_⟩:=ag k hk p;refine⟨S2,?_⟩;have J:E=dgOf (exam c ((n.name,k) :: s) B g):=by
   rw[<-hE];simp only[zH,qP];rw[hX,ak];simp only;rw[if_pos p];cases exam c ((n.name,k) :: s) B g<;>rfl
  rw[J];exact cg
 refine qSQ call163 func163 rfl { mt:=[3] } ?_;by_cases a2:n.op=15
 case' pos =>
  have a3:=ai a2;subst a3
 case' neg =>
  have a3:=aj a2;subst a3
 all_goals
  simp[go_sem,a2];refine qg.seg [0,1,2,3,4,5,6,7,8,9,10,11,12,13] [(0,0,[]),(1,0,[]),(2,0,[]),(3,0,[]),(4,0,[]),(5,0,[]),(6,1,[]),(7,0,[]),(8,0,[]),(9,0,[]),(10,2,[0,3,5]),(11,2,[0,3,5]),(12,1,[]),(13,1,[])] zKr zKr zSi ?_;simp[go_sem,t];refine qc.pure ca w1 ?_;simp[go_sem,qm,t];rw[if_pos (qQ _)];generalize hP:putCells _ 0 (aI S.1 :: hB S.2)=P;have R:P=aI S.1 :: hB S.2:=by rw[<-hP];exact pc (aI 0) _ (fun _=>false) _
  subst R;clear hP;simp[go_sem]
 all_goals
  cases X with
  |error e =>
   have he:=a7 e (qn _) rfl;have al:¬e.1=0:=zOm;have J:E=e:=by rw[<-hE];simp only[zH];rw[hX];rfl
   subst J;clear hE;simp[go_sem,dgOf,al];refine qg.seg [0,1,2,3] [(0,0,[]),(1,0,[]),(2,1,[1]),(3,1,[])] zKr zKr zSi ?_;simp[go_sem];exact .hf _ (jt zR E)
  |ok ko =>
   obtain⟨q,rfl,hq⟩:=ah ko (qn _) wa hs rfl a6;have an:=hS a6 q rfl;subst an;have a9:(qi q).1=q.ar:=rfl;by_cases p:q.ar=1
   .have T:(qi q).1=1:=a9.trans p
    obtain⟨S2,cg⟩:=a8 q hq p rfl;have a4:YJ (.ok (some q))=qi q:=if_pos p;rw[a4];have aa:envS ((n.name,q) :: s)=envS s++[(n.name,qi q)]:=by simp[envS]
    rw[aa]at cg;generalize qi q=Q at *
    obtain⟨qa,U⟩:=Q;have a5:qa=1:=T;subst a5;simp[go_sem,dgOf];refine qg.seg [0,1,2,4,5,6,7,8,10,11,12,13,3,9,14,15,16,17,18,19,20,21] [(0,0,[]),(1,0,[]),(2,0,[]),(4,0,[]),(5,0,[]),(6,0,[]),(7,0,[]),(8,0,[]),(10,0,[]),(11,0,[]),(12,0,[]),(13,0,[]),(3,1,[0,5,6,11,13]),(9,1,[0,11,13]),(14,1,[]),(15,0,[]),(16,0,[]),(17,0,[]),(18,2,[0,5,6,11,13]),(19,2,[0,5,6,11,13]),(20,1,[]),(21,1,[])] zKr zKr zSi ?_;simp[go_sem,qm,tk];rw[if_pos (qQ _)];generalize hC:putCells _ 1 _=C;have ao:C=cVr (n.name,(1,U)):=by rw[<-hC];exact pcV n.name (1,U)
    subst ao;clear hC;have aq:(cVr (n.name,((1:Int),U))).length=66:=by simp[qm]
    have au:=Xp (n.name,((1:Int),U));generalize hV:cVr (n.name,((1:Int),U))=V at *
    simp[go_sem,aq];rw[if_pos au];simp[go_sem,t];refine Xr (lo:=5) (xs:=[]) (ys:=envS s) (OwnF.nil zSp) (by simp[qH]) (by simp[VG];omega) fun az m1 av a0=>?_
    have k0:=a0 0 zOm;have k1:=a0 1 zOm;have k2:=a0 2 zOm;have k3:=a0 3 zOm;have k4:=a0 4 zOm;simp at k0 k1 k2 k3 k4;simp[go_sem,qm,tk,t,k0,k3];refine Xr (xs:=[]++envS s) (ys:=[(n.name,(1,U))]) av (by simp[qH,hV]) (by simp[VG];omega) fun b0 m2 a1 I=>?_
    rw[um]at a1;have aw:=a1.2.2;replace k0:=(I 0 zOm).trans k0;replace k1:=(I 1 zOm).trans k1;replace k2:=(I 2 zOm).trans k2;replace k3:=(I 3 zOm).trans k3;replace k4:=(I 4 zOm).trans k4;have o:∀(l:List Cell) (i:Nat),i<m2.length->(m2++l)[i]?=m2[i]?:=fun l i hi=>qI hi
    have g0:=(qe.1 k0).2;have g1:=(qe.1 k1).2;have g2:=(qe.1 k2).2;have g3:=(qe.1 k3).2;simp[go_sem,t,k0];refine qc.lend (args':=[eVw c _,lVr (envS s++[(n.name,(1,U))]),eNd g]) cg ⟨.hf _ (mj c _),rdVr a1,.hf _ (za g),trivial⟩ (qjN S2 _) ?_;have p0:=fun l=>(o l 0 zOm).trans k0
    have p1:=fun l=>(o l 1 zOm).trans k1
    have p2:=fun l=>(o l 2 zOm).trans k2
    have p3:=fun l=>(o l 3 zOm).trans k3
    have p4:=fun l=>(o l 4 zOm).trans k4
    have ab:0<m2.length:=zOm;have ad:3<m2.length:=zOm;simp[go_sem,qm,tk,t,g0,g3,ab,ad,p3];rw[if_pos (qQ _)];generalize hP:putCells _ 0 (cRS S2)=P;have R:P=cRS S2:=by rw[<-hP];exact pc (aI 0) _ (fun _=>false) _
    subst R;clear hP;simp[go_sem];obtain⟨rr,ae⟩:=five k0 k1 k2 k3 k4;have b1:m2.length=rr.length+5:=by rw[ae];rfl
    clear g0 g1 g2 g3 p0 p1 p2 p3 p4 o a1 I k0 k1 k2 k3 k4 aw ab ad;refine qg.seg [0,1,2,3] [(0,0,[]),(1,0,[]),(2,1,[1]),(3,1,[])] zKr zKr zSi ?_;simp[go_sem,qm,tk,ae];rw[if_pos (qQ _)];generalize hP:putCells _ 0 (aI 1 :: hB U)=P;have R:P=aI 1 :: hB U:=by rw[<-hP];exact pc (aI 0) (aI 1) (fun _=>false) U
    subst R;clear hP;simp[go_sem,qm,tk];exact .hf _ (jt (1,U) E)
   .have T:¬(qi q).1=1:=fun e=>p (a9.symm.trans e)
    have a4:YJ (.ok (some q))=zR:=if_neg p;rw[a4];have J:E=(42,n.pos):=by
     rw[<-hE];simp only[zH];rw[hX];simp only;rw[if_neg p];rfl
    subst J;clear hE;generalize qi q=Q at *
    simp[go_sem,dgOf,T];refine qg.seg [0,1,2,3,4,5] [(0,0,[]),(1,0,[]),(2,0,[]),(3,0,[]),(4,1,[2]),(5,1,[])] zKr zKr zSi ?_;simp[go_sem];exact .hf _ (jt zR (42,n.pos))
theorem qjP(ts:TS)(ok:okTS ts)(n:Nd)(l:List (Option Kd))(r:n.op≠1)(o:n.op≠15)
  (t:n.op=5\/n.op=11\/n.op=12\/n.op=13->∃ a,l=[some a]/\okKd ts.sorts.length a)
  (C:n.op=6\/n.op=14\/n.op=7\/n.op=8\/n.op=32\/n.op=33\/n.op=9\/n.op=10->∃ a b,l=[some a,some b]/\okKd ts.sorts.length a/\okKd ts.sorts.length b) :
  ∃ S b,(∀ L:List RS,((n.op=5\/n.op=11\/n.op=12\/n.op=13)\/(n.op=6\/n.op=14\/n.op=7\/n.op=8\/n.op=32\/n.op=33\/n.op=9\/n.op=10)->L=l.map setO)->prC ts n L S b)/\ApE n.op (zG ts.sorts.length n.op n.n n.pos l) S b:=by
 by_cases I:(n.op=5\/n.op=11\/n.op=12\/n.op=13)\/(n.op=6\/n.op=14\/n.op=7\/n.op=8\/n.op=32\/n.op=33\/n.op=9\/n.op=10)
 .obtain ⟨S,b,c,a⟩:=qjJ ts ok n l (l.map setO) r o (fun h=>by obtain⟨a,rfl,p⟩:=t h;exact⟨a,rfl,rfl,p⟩) (fun h=>by obtain⟨a,b,rfl,p,J⟩:=C h;exact⟨a,b,rfl,rfl,p,J⟩)
  exact⟨S,b,fun L P=>by rw[P I];exact c,a⟩
 by_cases g:n.op=2
 .refine ⟨qi ⟨n.n,[]⟩,true,fun L _=>mi (mc n.n) (ap2 ts n L g),?_⟩
  unfold zG;rw[if_pos g];exact⟨rfl,fun _=>⟨_,rfl,rfl⟩⟩
 by_cases i:n.op=3
 .refine ⟨_,true,fun L _=>ap3 ts ok n L i,?_⟩
  unfold zG;rw[if_neg g,if_pos i];exact⟨rfl,fun _=>⟨_,rfl,rfl⟩⟩
 by_cases j:n.op=4
 .refine ⟨_,true,fun L _=>ap4 ts ok n L j,?_⟩
  unfold zG;rw[if_neg g,if_neg i,if_pos j];exact⟨rfl,fun _=>⟨_,rfl,rfl⟩⟩
 refine⟨zR,true,fun L _=>apO ts n L g i j zOm zOm zOm zOm zOm zOm zOm zOm zOm zOm zOm zOm,?_⟩;rw[Wd g i j zOm zOm zOm zOm zOm zOm zOm zOm zOm zOm zOm zOm];refine⟨rfl,fun R=>?_⟩;have:=J5 R;omega
def resS:Res->RS
 | .ok (some k)=>qi k
 |_=>zR
theorem qjQ(R:Res):endR zR R = .tup [eRS (resS R),eDg (dgOf R)]:=by
 cases R with
 |error e=>rfl
 |ok k=>cases k<;>rfl
end QR
namespace QS
open YZ YF Y9 Y10 Y1 Y2 Y13 P1 P2 QE QF QI QJ QL QN PG QO QR
theorem VH(c:Ck)(op:Int)(nm:ByteArray):zF c op nm=(zO op||(decide (op=47)&&tpB c nm)):=rfl
theorem qjR{ns:Nat}{op n pos:Int}{l:List (Option Kd)}{e:Dg}(h:zG ns op n pos l = .error e):e=(42,pos):=by
 unfold zG at h
 repeat' split at h
 all_goals first
  | (cases h;done)
  | (cases h;rfl)
theorem wkTP(c:Ck)(nm:ByteArray):WKs [eTS c.ts,lBo c.timed,aI c.calls,aS nm] [eTS c.ts,lBo c.timed,aI c.calls,aS nm] := .zk (zn _) (.zk (Yz _) (.zs (.zs .nil)))
theorem wk1I(k:Int):WKs [aI k] [aI k] := .zs .nil
theorem fl_sb(s:RS)(b:Bool):FL (.tup [eRS s,aB b]):=FL.tup fun x g=>by
 rcases qu.1 g with rfl|g
 .exact FL.agg fun c i=>by
   rcases qu.1 i with rfl|i
   .exact FL.sc _
   .obtain ⟨j,_,rfl⟩:=qk.1 i
    exact FL.sc _
 .rw [qN]at g;subst g;exact FL.sc _
theorem qjS(c:Ck)(i:okCk c)(s:Scp)(n:Nd)(g:zF c n.op n.name=true):ExR c s true n:=by
 refine⟨zR,?_,fun _ q h=>?_⟩
 case refine_2=>rw[yw,if_pos (zP1 g)]at h;cases h
 have j:exam c s true n = .error (46,n.pos):=by rw[yw,if_pos (zP1 g)]
 rw[j];rw[VH]at g;refine qSQ call117 func117 rfl { mt:=[3] } ?_;have l:=Zo n.op;have o:=Zp c i n.name;simp[go_sem];refine qc.pure l (wk1I _) ?_;cases hT:zO n.op with
 |true =>
  simp[go_sem];refine qg.seg [0,1,2,3,4,5] [(0,0,[]),(1,0,[]),(2,0,[]),(3,0,[]),(4,1,[2]),(5,1,[])] zKr zKr zSi ?_;simp[go_sem,dgOf];exact .hf _ (jt zR (46,n.pos))
 |false =>
  rw[hT,Bool.false_or,qq]at g;obtain⟨h47,hB⟩:=g;have h47:n.op=47:=by simpa using h47
  simp[go_sem,h47];refine qc.pure o (wkTP c n.name) ?_;rw[hB];simp[go_sem];refine qg.seg [0,1,2,3,4,5] [(0,0,[]),(1,0,[]),(2,0,[]),(3,0,[]),(4,1,[2]),(5,1,[])] zKr zKr zSi ?_;simp[go_sem,dgOf];exact .hf _ (jt zR (46,n.pos))
theorem qjT(c:Ck)(l:okCk c)(s:Scp)(g:s.length<=100000)(inn:Bool)(n:Nd)(i:n.op=1):ExR c s inn n:=by
 have o:exam c s inn n=yV c s n.name n.pos:=by
  rw[yw,VH,i,show zO 1=false from rfl];simp
 refine⟨resS (yV c s n.name n.pos),?_,fun _ q h=>by rw[o]at h;rw[h];rfl⟩;rw[o];have p:=nameU c l inn s n g;rw[qjQ]at p;generalize resS (yV c s n.name n.pos)=S at *
 generalize dgOf (yV c s n.name n.pos)=D at *
 refine qSQ call117 func117 rfl { mt:=[3] } ?_;have r:=Zo n.op;have I:=Zp c l n.name;have hT:zO n.op=false:=by rw[i];rfl
 rw[hT]at r;have C:=wkE c inn (envS s) n;cases inn
 case' true =>
  simp[go_sem];refine qc.pure r (wk1I _) ?_
 all_goals
  simp[go_sem,i];refine qc.pure p C ?_;simp[go_sem,qm];rw[if_pos (qQ _)];generalize t:putCells _ 0 (aI S.1 :: hB S.2)=P;have j:P=aI S.1 :: hB S.2:=by rw[<-t];exact pc (aI 0) _ (fun _=>false) _
  subst j;clear t;simp[go_sem,qm,QE.tk];exact .hf _ (jt S D)
theorem qjU(c:Ck)(i:okCk c)(s:Scp)(p:ScOk c.ts.sorts.length s)(inn:Bool)(n:Nd)(r:WfN n)(h47:n.op=47)(g:(inn&&zF c n.op n.name)=false)(t:∀ k,k∈n.kids->ExR c s true k):ExR c s inn n:=by
 have C:exam c s inn n=Ye c s n:=by
  rw[yw,g,if_neg zSp,zIn,if_pos h47];rfl
 have I:=qjM c i s p n r h47 t inn;refine⟨zR,?_,fun j=>by rw[h47]at j;exact absurd j zDe⟩;rw[C];generalize dgOf (Ye c s n)=D at *
 refine qSQ call117 func117 rfl { mt:=[3] } ?_;have l:=Zo n.op;have o:=Zp c i n.name;have hT:zO n.op=false:=by rw[h47];rfl
 rw[hT]at l;have J:=wkE c inn (envS s) n;cases inn
 case' true =>
  rw[Bool.true_and,VH,hT,h47]at g;have hB:tpB c n.name=false:=zUs g;rw[hB]at o;simp[go_sem];refine qc.pure l (wk1I _) ?_;simp[go_sem,h47];refine qc.pure o (wkTP c n.name) ?_
 all_goals
  simp[go_sem,h47];refine qc.zP I J ?_;exact .hf _ (jt zR D)
theorem qjV(c:Ck)(R:okCk c)(s:Scp)(o:ScOk c.ts.sorts.length s)(p:s.length<=90000)(inn:Bool)(n:Nd)(T:WfN n)(l:n.op=15\/n.op=45\/n.op=46)(ht:(inn&&zF c n.op n.name)=false)(U:∀ k,k∈n.kids->∀ s',ScOk c.ts.sorts.length s'->s'.length<=s.length+1->∀ inn,ExR c s' inn k):ExR c s inn n:=by
 have hx:exam c s inn n=zH c s (inn||decide (n.op=15)) n.name n.pos n.kids:=by
  rw[yw,ht,if_neg zSp,zIn,zIn,if_pos l]
 obtain⟨a,g,i,r⟩:=VA T l;have cb:=qjO c R s o p n a g T l i r inn (U a (by rw[i];simp) s o zOm _) (fun k t j=>U g (by rw[i];simp) _ (fun v C=>by
  rcases qu.1 C with rfl|C
  .exact ⟨t,j⟩
  .exact o v C) zSp _)
 refine⟨YJ (exam c s (inn||decide (n.op=15)) a),?_,fun _ q h=>?_⟩
 case refine_2 =>
  rw[hx,i]at h;simp only[zH]at h;split at h
  .cases h
  .cases h
  .rename_i k t
   split at h
   .rename_i j
    split at h
    .cases h
    .cases h
     rw[t];exact if_pos j
   .cases h
 rw[hx];generalize YJ (exam c s (inn||decide (n.op=15)) a)=S at *
 generalize dgOf (zH c s (inn||decide (n.op=15)) n.name n.pos n.kids)=D at *
 refine qSQ call117 func117 rfl { mt:=[3] } ?_;have I:=Zo n.op;have cp:=Zp c R n.name;have h47:¬n.op=47:=zOm;have hT:zO n.op=false:=by unfold zO;rcases l with h|h|h<;>rw[h]<;>decide
 rw[hT]at I;have wn:=wkE c inn (envS s) n;rcases l with h|h|h
 all_goals
  rw[h]at I;cases inn
 all_goals
  simp[go_sem,h]
  try (refine qc.pure I (wk1I _) ?_)
  try simp[go_sem,h]
  refine qc.pure cb wn ?_;simp[go_sem,qm];rw[if_pos (qQ _)];generalize hP:putCells _ 0 (aI S.1 :: hB S.2)=P;have J:P=aI S.1 :: hB S.2:=by rw[<-hP];exact pc (aI 0) _ (fun _=>false) _
  subst J;clear hP;simp[go_sem,qm,QE.tk];exact .hf _ (jt S D)
def seqL(X:Nd->Res):List Nd->Except Dg (List (Option Kd))
 | [] => .ok []
 |k :: ks=>match X k with
  | .error e => .error e
  | .ok a=>match seqL X ks with
   | .error e => .error e
   | .ok l => .ok (a :: l)
theorem mn(c:Ck)(s:Scp)(B:Bool):∀ ks:List Nd,qP c s B ks=seqL (exam c s B) ks
 | []=>by simp only[qP,seqL]
 |k :: ks=>by simp only[qP,seqL];rw[mn c s B ks];cases exam c s B k with
  |error e=>rfl
  |ok a=>cases seqL (exam c s B) ks<;>rfl
theorem Xu{C:Type}{l:List C}{a b c:C}(g:l[0]?=some a)(i:l[1]?=some b)(j:l[2]?=some c):∃ r,l=a :: b :: c :: r:=by
 match l,g,i,j with
 |_ :: _ :: _ :: r,g,i,j =>
  simp at g i j;exact⟨r,by rw[g,i,j]⟩
theorem qjW{n:Nd}(j:WfN n)(h:(n.op=5\/n.op=11\/n.op=12\/n.op=13)\/(n.op=6\/n.op=14\/n.op=7\/n.op=8\/n.op=32\/n.op=33\/n.op=9\/n.op=10)):∀ x,x∈n.kids->kd x.op=101:=by
 have g:=j.shape;intro x l;have i:kd x.op∈n.kids.map fun k=>kd k.op:=qk.2 ⟨x,l,rfl⟩
 rcases h with h|h
 .unfold shp at g
  rw[zIn,if_pos zOm]at g;simp only[qj]at g;rw[<-g]at i;simpa using i
 .unfold shp at g
  rw[zIn,zIn,if_pos zOm]at g;simp only[qj]at g;rw[<-g]at i;simpa using i
set_option maxHeartbeats 2000000 in
theorem ex_t(c:Ck)(hc:okCk c)(s:Scp)(n:Nd)(inn B:Bool)(X:Nd->Res)(S:RS)(D:Dg)(h1:¬n.op=1)(h47:¬n.op=47)(hb:¬(n.op=15\/n.op=45\/n.op=46))(hw:WfN n)(au:n.kids.length<=401)(hT:inn=true->zO n.op=false)(a5:n.op=12->B=true)(a6:n.op=13->B=true)(af:¬n.op=12->¬n.op=13->B=inn)
  (ag:∀ k,k∈n.kids->∃ S,qd qb 117 [eVw c B,lVr (envS s),eNd k] (.tup [eRS S,eDg (dgOf (X k))])/\(kd k.op=101->∀ q,X k = .ok (some q)->S=qi q))
  (a7:∀ k a,k∈n.kids->X k = .ok a->kd k.op=101->∃ q,a=some q/\okKd c.ts.sorts.length q)
  (a1:∀ k e,X k = .error e->40<=e.1)
  (ah:∀ e,seqL X n.kids = .error e->S=zR/\D=e)
  (ai:∀ l,seqL X n.kids = .ok l->∃ S' b,(∀ L:List RS,((n.op=5\/n.op=11\/n.op=12\/n.op=13)\/(n.op=6\/n.op=14\/n.op=7\/n.op=8\/n.op=32\/n.op=33\/n.op=9\/n.op=10)->L=l.map setO)->prC c.ts n L S' b)/\(b=true->S=S'/\D=(0,0))/\(b=false->S=zR/\D=(42,n.pos))) :
  qd qb 117 [eVw c inn,lVr (envS s),eNd n] (.tup [eRS S,eDg D]):=by
 simp only[not_or]at hb;obtain⟨b1,b2,b3⟩:=hb;refine qSQ call117 func117 rfl { mt:=[3] } ?_;have ct:=Zo n.op;have cp:=Zp c hc n.name;cases inn
 all_goals first
  | (rw[hT rfl]at ct;simp[go_sem];refine qc.pure ct (wk1I _) ?_)
  |skip
 all_goals simp[go_sem,h1,h47,b1,b2,b3]
 all_goals rcases (show n.op=12\/(¬n.op=12/\n.op=13)\/(¬n.op=12/\¬n.op=13) by omega) with C|⟨C,U⟩|⟨C,U⟩
 all_goals first|simp[go_sem,C,U] | simp[go_sem,C]
 all_goals first|have a2:=a5 C|have a2:=a6 U|have a2:=af C U
 all_goals
  refine qh.upK n.kids.length (fun k st=>∃(p:List (Option Kd)) (L:List RS),p.length=k/\L.length=k/\st.tm 1=lVr (envS s)/\st.tm 3 = .ptr 0 0/\st.tm 5 = .ip (cNd n)/\st.tm 6 = .ptr 1 0/\st.tm 7 = .ptr 2 0/\st.tm 9=aI k/\st.mu[0]?=some (.arr (cVw c B))/\st.mu[1]?=some (.arr (aI 0 :: hB fun _=>false))/\st.mu[2]?=some (.arr [aI 0,aI 0])/\OwnF 3 st.mu 65 (st.tm 8) (L.map cRS)/\(∀(i:Nat) x,n.kids[i]?=some x->i<k->kd x.op=101->∃ q,p[i]?=some (some q)/\L[i]?=some (qi q))/\seqL X n.kids=(match seqL X (n.kids.drop k) with | .error e => .error e | .ok l => .ok (p++l))) ?_ ?_
  .refine ⟨[],[],rfl,rfl,zSi,zSi,zSi,zSi,zSi,zSi,by rw[a2];simp[go_sem],by simp[go_sem];rfl,zSi,by simp[go_sem];exact OwnF.nil zSp,fun i x _ h=>absurd h zOm,?_⟩
   simp only[List.drop_zero,um];cases seqL X n.kids<;>rfl
  rintro k st hk ⟨p,L,a8,a9,e1,e3,e5,e6,e7,e9,m0,m1,m2,ho,a0,I⟩;generalize h8:st.tm 8=av at *
  by_cases t:k<n.kids.length
  .have w1:=zWk k
   obtain⟨Sk,ck,aj⟩:=ag n.kids[k] (qt t);rw[zD t]at I;simp only[seqL]at I;simp[go_sem,e5,e9,t];refine qg.seg [0,1,2,3,4,5,6,7,8,9,10,11,12,13,14] [(0,0,[]),(1,0,[]),(2,0,[]),(3,0,[]),(4,0,[]),(5,0,[]),(6,0,[]),(7,1,[]),(8,0,[]),(9,0,[]),(10,0,[]),(11,2,[0,3,6]),(12,2,[0,3,6]),(13,1,[]),(14,1,[])] zKr zKr zSi ?_;have aa:2<st.mu.length:=(qe.1 m2).1;have o:∀(l:List Cell) (i:Nat),i<st.mu.length->(st.mu++l)[i]?=st.mu[i]?:=fun l i J=>qI J
   have p0:=fun l=>(o l 0 zOm).trans m0
   have p1:=fun l=>(o l 1 zOm).trans m1
   have p2:=fun l=>(o l 2 zOm).trans m2
   have g0:=(qe.1 m0).2;have g1:=(qe.1 m1).2;have g2:=(qe.1 m2).2;have a3:0<st.mu.length:=zOm;have ak:1<st.mu.length:=zOm;simp[go_sem,e1,e3,e5,e9,t,m0];refine qc.pure ck (wkE c _ _ _) ?_;cases hx:X n.kids[k] with
   |error e =>
    have he:=a1 _ _ hx;have al:¬e.1=0:=zOm;rw[hx]at I;have I:seqL X n.kids = .error e:=I;obtain⟨an,ao⟩:=ah e I;rw[an,ao];simp[go_sem,e3,g0,a3,qm,dgOf];rw[if_pos (qQ _)];generalize hP:putCells _ 0 (cRS Sk)=P;have R:P=cRS Sk:=by rw[<-hP];exact pc (aI 0) _ (fun _=>false) _
    subst R;clear hP;simp[go_sem,al];refine qg.seg [0,1,2,3] [(0,0,[]),(1,0,[]),(2,1,[1]),(3,1,[])] zKr zKr zSi ?_;simp[go_sem,e6,e7,a3,qm,g1,g2,ak,aa];exact .hf _ (jt zR e)
   |ok a =>
    rw[hx]at I;simp only at I;simp[go_sem,e3,g0,a3,qm,dgOf];rw[if_pos (qQ _)];generalize hP:putCells _ 0 (cRS Sk)=P;have R:P=cRS Sk:=by rw[<-hP];exact pc (aI 0) _ (fun _=>false) _
    subst R;clear hP;simp[go_sem,h8,qm,QE.tk];rw[if_pos (qQ _)];simp[go_sem];refine appRS (lo:=3) (xs:=L) (ys:=[Sk]) ⟨by simpa using Wb (Wb ho.1 _) _,ho.2.1,by have:=ho.2.2;simp;omega⟩ (by simp[qH]) zSo fun aw m' aq a4=>?_
    simp[go_sem,e9,t,w1];refine Keep.mk' ⟨p++[a],L++[Sk],zP1 a8,zP1 a9,zS1 e1,zS1 e3,zS1 e5,zS1 e6,zS1 e7,zSi,?_,?_,?_,zVs aq,fun i x J ax T=>?_,?_⟩
    .simp only[zi];exact(a4 0 zOm).trans (p0 _)
    .simp only[zi];exact(a4 1 zOm).trans (p1 _)
    .simp only[zi];exact(a4 2 zOm).trans (p2 _)
    .by_cases ab:i=k
     .subst ab
      rw[qv t]at J;cases J;obtain⟨q,rfl,_⟩:=a7 _ a (qt t) hx T;refine⟨q,?_,?_⟩
      .rw [qT zOm,a8];simp
      .rw [qT zOm,a9];simp[aj T q hx]
     .obtain ⟨q,q1,q2⟩:=a0 i x J zOm T
      exact⟨q,by rw[zGa];exact q1,by rw[zGa];exact q2⟩
    .rw [I]
     cases seqL X (n.kids.drop (k+1)) with
     |error e=>rfl
     |ok l=>simp
  .have ad:k=n.kids.length:=by omega
   subst ad;rw[yR]at I;have I:seqL X n.kids = .ok p:=by rw[I];simp only[seqL,zL]
   obtain⟨S',b,q1,q2,q3⟩:=ai p I;have hL:((n.op=5\/n.op=11\/n.op=12\/n.op=13)\/(n.op=6\/n.op=14\/n.op=7\/n.op=8\/n.op=32\/n.op=33\/n.op=9\/n.op=10))->L=p.map setO:=fun h=>by
    have T:∀ x,x∈n.kids->kd x.op=101:=fun x hx=>qjW hw h x hx
    refine List.ext_getElem? fun i=>?_
    by_cases J:i<n.kids.length
    .obtain ⟨q,e1,e2⟩:=a0 i n.kids[i] (zP1 J) J (T _ (qt J))
     rw[e2,List.getElem?_map,e1];rfl
    .rw [yC zOm,yC zSo]
   have hp:=q1 L hL;unfold prC at hp;have aa:2<st.mu.length:=(qe.1 m2).1;have o:∀(l:List Cell) (i:Nat),i<st.mu.length->(st.mu++l)[i]?=st.mu[i]?:=fun l i J=>qI J
   obtain⟨rr,ae⟩:=Xu m0 m1 m2;simp[go_sem,e3,e5,e9,h8,m0];refine qc.lend (args':=[eTS c.ts,eNd n,lRS L]) hp ⟨.hf _ (zn _),.hf _ (za n),rdRS ho,trivial⟩ (fl_sb S' b) ?_;have ay:st.mu.length=rr.length+3:=by rw[ae];rfl
   clear m0 m1 m2 o ho;simp[go_sem,ae,qm];rw[if_pos (qQ _)];generalize hP:putCells _ 0 (cRS S')=P;have R:P=cRS S':=by rw[<-hP];exact pc (aI 0) _ (fun _=>false) _
   subst R;clear hP;cases b with
   |true =>
    obtain⟨rfl,rfl⟩:=q2 rfl;simp[go_sem,e6,qm,QE.tk,pc];rw[if_pos (qQ _)];simp[go_sem,e6,e7,qm,QE.tk];exact .hf _ (jt S (0,0))
   |false =>
    obtain⟨rfl,rfl⟩:=q3 rfl;simp[go_sem];refine qg.seg [0,1,2,3,4,5] [(0,0,[]),(1,0,[]),(2,0,[]),(3,0,[]),(4,1,[2]),(5,1,[])] zKr zKr zSi ?_;simp[go_sem,e5,e6,e7,qm];exact .hf _ (jt zR (42,n.pos))
theorem qjX(c:Ck)(t:okCk c)(s:Scp)(hs:ScOk c.ts.sorts.length s)(inn:Bool)(n:Nd)(C:WfN n)(h1:¬n.op=1)(h47:¬n.op=47)(hb:¬(n.op=15\/n.op=45\/n.op=46))(ht:(inn&&zF c n.op n.name)=false)(ih:∀ k,k∈n.kids->∀ inn,ExR c s inn k):ExR c s inn n:=by
 have hx:exam c s inn n=match qP c s (inn||decide (n.op=12)||decide (n.op=13)) n.kids with | .error e => .error e | .ok l=>zG c.ts.sorts.length n.op n.n n.pos l:=by
  rw[yw,ht,if_neg zSp,if_neg h1,if_neg h47,if_neg hb];generalize qP c s _ n.kids=Z;cases Z<;>rfl
 have I:n.op=12\/n.op=13->(inn||decide (n.op=12)||decide (n.op=13))=true:=fun h=>by rcases h with h|h<;>simp[h]
 have a1:¬n.op=12->¬n.op=13->(inn||decide (n.op=12)||decide (n.op=13))=inn:=fun h h'=>by simp[h,h']
 generalize (inn||decide (n.op=12)||decide (n.op=13))=B at *
 obtain⟨S,D,J,hq,P,R⟩:∃ S D,dgOf (exam c s inn n)=D/\(kd n.op=101->∀ q,exam c s inn n = .ok (some q)->S=qi q)/\(∀ e,qP c s B n.kids = .error e->S=zR/\D=e) /\
   (∀ l,qP c s B n.kids = .ok l->∃ r b,(∀ L:List RS,((n.op=5\/n.op=11\/n.op=12\/n.op=13)\/(n.op=6\/n.op=14\/n.op=7\/n.op=8\/n.op=32\/n.op=33\/n.op=9\/n.op=10)->L=l.map setO)->prC c.ts n L r b)/\(b=true->S=r/\D=(0,0))/\(b=false->S=zR/\D=(42,n.pos))):=by
  rw[hx];cases hE:qP c s B n.kids with
  |error e=>exact⟨zR,e,rfl,(fun _ q h=>by cases h),(fun e' h=>by cases h;exact⟨rfl,rfl⟩),(fun l h=>by cases h)⟩
  |ok l =>
   obtain⟨a2,a3⟩:=J4 hE;have g:=(kR t.ts.ns C a2 (fun i k' a hi ha o=>uN t (szN k') k' s B a (qn _) (C.kid (List.mem_of_getElem? hi)) hs (a3 i k' a hi ha) o)).2;obtain⟨r,b,p1,j⟩:=qjP c.ts t.ts n l h1 (fun h=>hb (.inl h)) (fun h=>by
    rcases h with h|h|h|h
    .exact g.1 h
    .exact g.2.1 (.inl h)
    .exact g.2.1 (.inr (.inl h))
    .exact g.2.1 (.inr (.inr h))) g.2.2
   simp only;cases hA:zG c.ts.sorts.length n.op n.n n.pos l with
   |error e =>
    rw[hA]at j;have j:b=false:=j;refine⟨zR,e,rfl,(fun _ q h=>by cases h),(fun e' h=>by cases h),(fun l' h=>by cases h;exact⟨r,b,p1,(fun h=>by rw[j]at h;cases h),(fun _=>⟨rfl,qjR hA⟩)⟩)⟩
   |ok ko =>
    rw[hA]at j;obtain⟨j,p3⟩:=j;refine⟨r,(0,0),rfl,(fun T q h=>?_),(fun e' h=>by cases h),(fun l' h=>by cases h;exact⟨r,b,p1,(fun _=>⟨rfl,rfl⟩),(fun h=>by rw[j]at h;cases h)⟩)⟩;obtain⟨q',e1,e2⟩:=p3 T;cases h;cases e1;exact e2
 refine⟨S,?_,hq⟩;rw[J];clear J hx hq;obtain⟨X,U⟩:∃ X:Nd->Res,X=exam c s B:=⟨_,rfl⟩;have a4:∀ k,k∈n.kids->∃ S,qd qb 117 [eVw c B,lVr (envS s),eNd k] (.tup [eRS S,eDg (dgOf (X k))])/\(kd k.op=101->∀ q,X k = .ok (some q)->S=qi q):=fun k T=>by rw[U];exact ih k T B
 have a0:∀ k a,k∈n.kids->X k = .ok a->kd k.op=101->∃ q,a=some q/\okKd c.ts.sorts.length q:=fun k a T h o=>by rw[U]at h;exact uN t (szN k) k s B a (qn _) (C.kid T) hs h o
 have p:∀ k e,X k = .error e->40<=e.1:=fun k e h=>by rw[U]at h;exact Yq c (szN k) k s B e (qn _) h
 rw[mn,<-U]at P R;clear U ih;have a5:=C.len;exact ex_t c t s n inn B X S D h1 h47 hb C a5 (fun hi=>by
  rw[hi,Bool.true_and,VH,Bool.or_eq_false_iff]at ht;exact ht.1) (fun h=>I (.inl h)) (fun h=>I (.inr h)) a1 a4 a0 p P R
theorem mq(c:Ck)(g:okCk c):∀(m:Nat) (n:Nd),depN n<=m->WfN n->∀(s:Scp),ScOk c.ts.sorts.length s->s.length+m<=80000->∀ inn,ExR c s inn n
 | 0,n,t,_,_,_,_,_=>zW1 (nr n)
 |m+1,n,t,o,s,l,J,inn=>by
  have p:∀ k,k∈n.kids->∀ s',ScOk c.ts.sorts.length s'->s'.length<=s.length+1->∀ inn,ExR c s' inn k:=fun k i s' r P inn=>mq c g m k (by have:=nq i;rw[Zh]at t;omega) (o.kid i) s' r zOm inn
  cases j:inn&&zF c n.op n.name with
  |true =>
   rw[qq]at j;rw[j.1];exact qjS c g s n j.2
  |false =>
   by_cases C:n.op=1
   .exact qjT c g s zOm inn n C
   by_cases h47:n.op=47
   .exact qjU c g s l inn n o h47 j fun k i=>p k i s l zOm true
   by_cases I:n.op=15\/n.op=45\/n.op=46
   .exact qjV c g s l zOm inn n o I j p
   .exact qjX c g s l inn n o C h47 I j fun k i inn=>p k i s l zOm inn
end QS
namespace QT
open YF Y9 Y10 Y1 Y2 Y14 Y15 Y16 YZ P1 P2 PA Q5 QD QE QI QJ QL QM QO QS
section
variable {ts:TS}
def ckR(ts:TS)(i:Nat):Ck:=⟨ts,i,tmsL ts ts.preds.length⟩
theorem VI(h:okTS ts){i:Nat}(g:i<=ts.preds.length):okCk (ckR ts i):=⟨h,g,by show i<=(tmsL ts ts.preds.length).length;rw[Q0 ts _ (qn _)];exact g⟩
theorem mr{c c':Ck}(g:c'.ts=c.ts)(r:∀ nm,zb c' nm=zb c nm)(t:∀ op nm,zF c' op nm=zF c op nm):∀(m:Nat) (n:Nd) (s:Scp) (inn:Bool),szN n<=m->exam c s inn n=exam c' s inn n
 | 0,n,_,_,J=>by obtain⟨op,nm,i,ks,p⟩:=n;simp[szN]at J
 |m+1,n,s,inn,J=>by
  have o:∀ k,k∈n.kids->∀(s:Scp) (inn:Bool),exam c s inn k=exam c' s inn k:=fun k o s inn=>mr g r t m k s inn (zW1 (yv o))
  refine gt rfl rfl rfl rfl (t _ _) (fun _=>?_) (by rw[g]) (r _) (by rw[g]) rfl (fun _ R=>gx fun k l=>o k l s true) (fun _ inn=>?_) (fun _ _ _ inn=>Vk fun k l=>o k l s inn)
  .rw [wv,wv,g]
  .cases C:n.kids with
   |nil=>rfl
   |cons k ks =>
    have j:∀ x,x∈k :: ks->x∈n.kids:=fun x I=>by rw[C];exact I
    simp only[zH];rw[o k (j k (qR ..)) s inn];have P:∀ a,qP c ((n.name,a) :: s) inn ks=qP c' ((n.name,a) :: s) inn ks:=fun a=>Vk fun x I=>o x (j x (qK _ I)) _ _
    simp only[P]
theorem qjY(h:okTS ts){i:Nat}(l:i<=ts.preds.length)(n:Nd)(s:Scp)(inn:Bool):exam (ckR ts i) s inn n=exam (mkCk ts i) s inn n:=by
 refine(mr (c:=mkCk ts i) (c':=ckR ts i) rfl (fun t=>rfl) (fun op t=>?_) (szN n) n s inn (qn _)).symm;unfold zF;have e:zb (ckR ts i) t=zb (mkCk ts i) t:=rfl;rw[e];cases o:zb (mkCk ts i) t with
 |none=>rfl
 |some p =>
  obtain⟨j,g⟩:=Qy (uM h l) o;have j:p<i:=j;have g:p<ts.preds.length:=g;simp only;have r:=PC.Vw ts p ts.preds.length g (qn _) g;have C:=PC.Vw ts p i j l g;show (zO op||(decide (op=47)&&(tmsL ts ts.preds.length).getD p false))=(zO op||(decide (op=47)&&(tmsL ts i).getD p false));rw[r,C]
theorem qjZ(h:okTS ts){i:Nat}(g:i<=ts.preds.length)(env:List (ByteArray×Int))(n:Nd):jN (mkCk ts i) env n=if 30<=n.op then dgOf (exam (ckR ts i) (yL env) false n) else (43,n.pos):=by
 unfold jN;rw[qjY h g]
theorem mv(ts:TS)(h:okTS ts)(J:∀ p,p∈ts.preds->WfN p.body)(i:Nat)(o:i<=ts.preds.length)(env:List (ByteArray×Int))(t:Wf ts.sorts.length env)(j:env.length<=1000)(n:Nd)(R:WfN n)(T:depN n<=24) :
  qd qb 67 [eTS ts,aI i,lPm env,eNd n] (eDg (jN (mkCk ts i) env n)):=by
 rw[qjZ h o];have U:=h.ns;have hs:=kU t;have a0:(yL env).length=env.length:=by
  have:=congrArg List.length (n9 env);rw[VG]at this;simpa[envV] using this.symm
 obtain⟨S,ce,_⟩:=mq (ckR ts i) (VI h o) 24 n T R (yL env) hs zOm false;have C:=envU env j (fun p hp=>zW1 (t.r p hp));rw[n9]at C;have c1:=qjE n;have c2:=qjB ts h J;refine qSU call67 func67 rfl ?_;refine qc.pure c1 (.zk (za n) .nil) ?_;by_cases g:30<=n.op
 .rw [if_pos g]
  generalize dgOf (exam (ckR ts i) (yL env) false n)=D at *
  simp[go_sem,g];refine qg.seg [0,1,3,5,7,2,4,6,8,9,10,11,12,13,14,15] [(0,0,[]),(1,0,[]),(3,0,[]),(5,0,[]),(7,0,[]),(2,1,[0,7]),(4,0,[]),(6,1,[0,7]),(8,1,[]),(9,0,[]),(10,0,[]),(11,0,[]),(12,2,[0,1,7]),(13,2,[0,1,7]),(14,1,[]),(15,1,[])] zKr zKr zSi ?_;simp[go_sem];refine qc.zP c2 (.zk (zn ts) .nil) ?_;refine qc.zP C (.zk (Z6 env) .nil) ?_;refine qc.pure ce (wkE (ckR ts i) false _ n) ?_;simp[go_sem,qm];rw[if_pos (qQ _)];generalize I:putCells _ 0 (cRS S)=P;have l:P=cRS S:=by rw[<-I];exact pc (aI 0) _ (fun _=>false) _
  subst l;clear I;simp[go_sem];exact .hf _ (uh D)
 .rw [if_neg g]
  simp[go_sem,g];exact .hf _ (uh (43,n.pos))
theorem Xv(ts:TS)(h:okTS ts)(i:∀ p,p∈ts.preds->WfN p.body)(env:List (ByteArray×Int))(j:Wf ts.sorts.length env)(g:env.length<=1000)(n:Nd)(l:WfN n)(o:depN n<=24) :
  qd qb 30 [eTS ts,lPm env,eNd n] (eDg (ye ts env n)):=by
 have c1:=mv ts h i ts.preds.length (qn _) env j g n l o;have e:jN (mkCk ts ts.preds.length) env n=ye ts env n:=rfl;rw[e]at c1;generalize ye ts env n=D at *
 refine qSU call30 func30 rfl ?_;refine qc.zP c1 (.zk (zn ts) (.zs (.zk (Z6 env) (.zk (za n) .nil)))) ?_;exact .hf _ (uh D)
theorem Zq(a b:List Bool):dups (a++b)=dups a++dups b:=by simp[dups]
theorem ui(b:Bool):dups [b]=if b=true then [(41,0)] else []:=by cases b<;>rfl
theorem v8(l:List Bool):(dups l).length<=l.length:=by
 unfold dups;rw[zJ];exact List.length_filter_le ..
theorem Xw{C:Type}(g:C->C->Bool)(l:List C)(k:Nat)(h:k<l.length):(repL g l).take (k+1)=(repL g l).take k++[(l.take k).any fun y=>g l[k] y]:=by
 have i:k<(repL g l).length:=by rw[uO];exact h
 rw[jF i];congr 2;have:=kV g l h;rw[qv i]at this;exact Option.some.inj this
theorem VJ{C:Type}(p:C->Bool)(l:List C)(k:Nat)(h:k<l.length):(l.take (k+1)).any p=((l.take k).any p||p l[k]):=by
 rw[jF h,List.any_append];simp only[List.any_cons,List.any_nil,Bool.or_false]
abbrev eS:ByteArray×Bool->ByteArray×Bool->Bool:=fun x y=>decide (x.1=y.1)
abbrev eF:Fld->Fld->Bool:=fun x y=>decide (x.name=y.name)&&decide (x.sorts=y.sorts)
abbrev eP:Pd->Pd->Bool:=fun x y=>decide (x.name=y.name)
abbrev eM:ByteArray×Int->ByteArray×Int->Bool:=fun x y=>decide (x.1=y.1)
abbrev eA:ByteArray×Nd->ByteArray×Nd->Bool:=fun x y=>decide (x.1=y.1)
theorem uV{mu:Mu}{lo:Nat}{s x:AV}{xs ys:List Dg}{K:AV->Mu->Prop}(o:OwnF lo mu 2 s (xs.map cDg))(t:qH mu x=some (ys.map cDg))(P:xs.length+ys.length<=100000)(C:∀ av g,OwnF lo g 2 av ((xs++ys).map cDg)->(∀ i,i<lo->g[i]?=mu[i]?)->K av g) :
  qA qb mu #[82,82] s x K:=by
 have j:∀ l:List Dg,zg 2 (l.map cDg):=fun l r I=>by
  obtain⟨n,_,rfl⟩:=qk.1 I;exact⟨rfl,rfl⟩
 refine qA.ownF (lo:=lo) (e:=78) (sz:=2) (bt:=16) (zv := .agg [aI 0,aI 0]) (xs:=xs.map cDg) (ys:=ys.map cDg) zSi zSi zSi rfl rfl zOm zOm o t (j xs) (j ys) zSo ?_;intro av g h J;exact C av g (by rw[zd];exact h) J
theorem qj0(ts:TS)(h:okTS ts)(mu:Mu):qL qb 65 [eTS ts] mu fun e m=>∃ av,e = .ret av/\OwnF mu.length m 2 av ((dups (repL eS ts.sorts)++dups (repL eF ts.fields)).map cDg)/\∀ i,i<mu.length->m[i]?=mu[i]?:=by
 refine qSW call65 func65 rfl {} ?_;have a6:=h.ns;have ab:=h.nf;simp[go_sem];refine qh.upK ts.sorts.length (fun i st=>st.tm 1 = .ip (cTS ts)/\st.tm 4=aI i/\OwnF mu.length st.mu 2 (st.tm 3) ((dups ((repL eS ts.sorts).take i)).map cDg)/\∀ i,i<mu.length->st.mu[i]?=mu[i]?) ?_ ?_
 .exact ⟨zSi,zSi,by simp[go_sem,dups];exact OwnF.nil (qn _),zSi⟩
 rintro i st U ⟨P,e4,I,hm⟩;have a0:(dups ((repL eS ts.sorts).take i)).length<=i:=zV (v8 _) (List.length_take_le ..);generalize h3:st.tm 3=av at *
 by_cases o:i<ts.sorts.length
 .have t:=Xw eS ts.sorts i o
  have wi:=zWk i;simp[go_sem,P,e4,o];refine qh.upK i (fun k st2=>st2.tm 1 = .ip (cTS ts)/\st2.tm 4=aI i/\st2.tm 3=av/\st2.tm 6=aI k/\st2.tm 5=aB ((ts.sorts.take k).any fun y=>eS ts.sorts[i] y)/\st2.mu=st.mu) ?_ ?_
  .exact ⟨zS1 P,zS1 e4,zS1 h3,zSi,zSi,zSi⟩
  rintro k st2 hk ⟨f1,f4,f3,f6,f5,C⟩;generalize hT:(ts.sorts.take k).any (fun y=>eS ts.sorts[i] y)=T at *
  by_cases p:k<i
  .have r:k<ts.sorts.length:=by omega
   have wk:=zWk k;have g:=VJ (fun y=>eS ts.sorts[i] y) ts.sorts k r;rw[hT]at g;simp[go_sem,f4,f6,p];refine qg.intro zKr ?_;cases T with
   |true =>
    rw[Bool.true_or]at g;simp[go_sem,f6,f5,p,wk];exact Keep.mk' ⟨zS1 f1,zS1 f4,zS1 f3,zSi,by rw[g];simp[go_sem],zS1 C⟩
   |false =>
    rw[Bool.false_or]at g;by_cases J:ts.sorts[k].1=ts.sorts[i].1
    .have l:(ts.sorts.take (k+1)).any (fun y=>eS ts.sorts[i] y)=true:=by rw[g];exact decide_eq_true J.symm
     simp[go_sem,f1,f4,f6,f5,p,r,o,wk,J];exact Keep.mk' ⟨zS1 f1,zS1 f4,zS1 f3,zSi,by rw[l];simp[go_sem],zS1 C⟩
    .have l:(ts.sorts.take (k+1)).any (fun y=>eS ts.sorts[i] y)=false:=by rw[g];exact decide_eq_false fun e=>J e.symm
     simp[go_sem,f1,f4,f6,f5,p,r,o,wk,jM J];exact Keep.mk' ⟨zS1 f1,zS1 f4,zS1 f3,zSi,by rw[l];simp[go_sem],zS1 C⟩
  .have a1:k=i:=by omega
   subst a1;rw[hT]at t;cases T with
   |true =>
    simp[go_sem,f4,f3,f6,f5,C];refine uV (ys:=[(41,0)]) I (by simp[qH]) zSo fun a7 m' a2 a3=>?_
    simp[go_sem,f4,wi];exact⟨o,Keep.mk' ⟨zS1 f1,zSi,by rw[t,Zq,ui,if_pos rfl];simpa[go_sem] using a2,by simp only[zi];exact fun i U=>(a3 i U).trans (hm i U)⟩⟩
   |false =>
    simp[go_sem,f4,f6,f5,C,wi];exact⟨o,Keep.mk' ⟨zS1 f1,zSi,by rw[t,Zq,ui,if_neg zSp,zL];simpa[go_sem,f3,C] using I,by simp only[zi];exact hm⟩⟩
 .have a4:i=ts.sorts.length:=by omega
  subst a4;rw[zK (by rw[uO];exact qn _)]at I;simp[go_sem,P,e4];generalize a8:dups (repL eS ts.sorts)=a5 at *
  have ad:a5.length<=4:=by rw[<-a8];exact zV (v8 _) (by rw[uO];exact a6)
  refine qh.upK ts.fields.length (fun i st=>st.tm 1 = .ip (cTS ts)/\st.tm 7=aI i/\OwnF mu.length st.mu 2 (st.tm 3) ((a5++dups ((repL eF ts.fields).take i)).map cDg)/\∀ i,i<mu.length->st.mu[i]?=mu[i]?) ?_ ?_
  .exact ⟨zS1 P,zSi,by simpa[go_sem,dups,h3] using I,zVs hm⟩
  clear a0 I hm P e4 h3 o U st;rintro i st U ⟨P,e4,I,hm⟩;have a0:(dups ((repL eF ts.fields).take i)).length<=i:=zV (v8 _) (List.length_take_le ..);generalize h3:st.tm 3=a9 at *
  by_cases o:i<ts.fields.length
  .have t:=Xw eF ts.fields i o
   have wi:=zWk i;simp[go_sem,P,e4,o];refine qh.upK i (fun k st2=>st2.tm 1 = .ip (cTS ts)/\st2.tm 7=aI i/\st2.tm 3=a9/\st2.tm 9=aI k/\st2.tm 8=aB ((ts.fields.take k).any fun y=>eF ts.fields[i] y)/\st2.mu=st.mu) ?_ ?_
   .exact ⟨zS1 P,zS1 e4,zS1 h3,zSi,zSi,zSi⟩
   rintro k st2 hk ⟨f1,f4,f3,f6,f5,C⟩;generalize hT:(ts.fields.take k).any (fun y=>eF ts.fields[i] y)=T at *
   by_cases p:k<i
   .have r:k<ts.fields.length:=by omega
    have wk:=zWk k;have g:=VJ (fun y=>eF ts.fields[i] y) ts.fields k r;rw[hT]at g;have ae:=h.fl _ (qt r);have aa:=qe7 ts.fields[k].sorts ts.fields[i].sorts zOm;simp[go_sem,f4,f6,p];refine qg.intro zKr ?_;cases T with
    |true =>
     rw[Bool.true_or]at g;simp[go_sem,f6,f5,p,wk];exact Keep.mk' ⟨zS1 f1,zS1 f4,zS1 f3,zSi,by rw[g];simp[go_sem],zS1 C⟩
    |false =>
     rw[Bool.false_or]at g;by_cases J:ts.fields[k].name=ts.fields[i].name
     .simp [go_sem,f1,f4,f6,f5,r,o,J]
      refine qc.pure aa (.zk (zf _) (.zk (zf _) .nil)) ?_;by_cases R:ts.fields[k].sorts=ts.fields[i].sorts
      .have l:(ts.fields.take (k+1)).any (fun y=>eF ts.fields[i] y)=true:=by rw[g];simp[eF,J.symm,R.symm]
       simp[go_sem,f6,p,wk,R];exact Keep.mk' ⟨zS1 f1,zS1 f4,zS1 f3,zSi,by rw[l];simp[go_sem],zS1 C⟩
      .have l:(ts.fields.take (k+1)).any (fun y=>eF ts.fields[i] y)=false:=by rw[g];simp[eF,J.symm];exact fun e=>R e.symm
       simp[go_sem,f6,p,wk,R];exact Keep.mk' ⟨zS1 f1,zS1 f4,zS1 f3,zSi,by rw[l];simp[go_sem],zS1 C⟩
     .have l:(ts.fields.take (k+1)).any (fun y=>eF ts.fields[i] y)=false:=by rw[g];simp[eF];exact fun e=>absurd e.symm J
      simp[go_sem,f1,f4,f6,f5,p,r,o,wk,jM J];exact Keep.mk' ⟨zS1 f1,zS1 f4,zS1 f3,zSi,by rw[l];simp[go_sem],zS1 C⟩
   .have a1:k=i:=by omega
    subst a1;rw[hT]at t;cases T with
    |true =>
     simp[go_sem,f4,f3,f6,f5,C];refine uV (ys:=[(41,0)]) I (by simp[qH]) zSo fun a7 m' a2 a3=>?_
     simp[go_sem,f4,wi];exact⟨o,Keep.mk' ⟨zS1 f1,zSi,by rw[t,Zq,ui,if_pos rfl,<-zc];simpa[go_sem] using a2,by simp only[zi];exact fun i U=>(a3 i U).trans (hm i U)⟩⟩
    |false =>
     simp[go_sem,f4,f6,f5,C,wi];exact⟨o,Keep.mk' ⟨zS1 f1,zSi,by rw[t,Zq,ui,if_neg zSp,zL];simpa[go_sem,f3,C] using I,by simp only[zi];exact hm⟩⟩
  .have a4:i=ts.fields.length:=by omega
   subst a4;rw[zK (by rw[uO];exact qn _)]at I;simp[go_sem,P,e4,h3];exact⟨zUs I,hm⟩
end
end QT
namespace QU
open YF Y9 Y10 Y1 Y2 Y15 Y16 YZ P1 P2 PA QD QI QK QT
theorem qj1{ts:TS}{i:Nat}(o:i<ts.preds.length):(∃ p:Nat,zb (ckR ts i) ts.preds[i].name=some p/\(ts.preds.take i).any (fun y=>eP ts.preds[i] y)=true)\/(zb (ckR ts i) ts.preds[i].name=none/\(ts.preds.take i).any (fun y=>eP ts.preds[i] y)=false):=by
 cases h:zb (ckR ts i) ts.preds[i].name with
 |some p =>
  left;refine⟨p,rfl,?_⟩;unfold zb at h;rw[List.findIdx?_eq_some_iff_getElem]at h;obtain⟨j,g,_⟩:=h;refine List.any_eq_true.2 ⟨_,qt j,?_⟩;have g:decide ((ts.preds.take i)[p].name=ts.preds[i].name)=true:=g;have g:(ts.preds.take i)[p].name=ts.preds[i].name:=zUs g;exact decide_eq_true g.symm
 |none =>
  right;refine⟨rfl,?_⟩;unfold zb at h;rw[List.findIdx?_eq_none_iff]at h;rw[List.any_eq_false];intro x l;have:=h x l;have:¬x.name=ts.preds[i].name:=by simpa using this
  simpa using fun e:ts.preds[i].name=x.name=>this e.symm
theorem rdDg{lo:Nat}{mu:Mu}{av:AV}{xs:List Dg}(h:OwnF lo mu 2 av (xs.map cDg)):Rd mu av (lDg xs):=by
 refine h.1.rd (zg.ok fun r i=>?_) fun r i c g=>?_
 .obtain ⟨n,_,rfl⟩:=qk.1 i
  exact⟨rfl,rfl⟩
 .obtain ⟨n,_,rfl⟩:=qk.1 i
  rcases qu.1 g with rfl|g
  .exact HF.sc _
  .rw [qN]at g;subst g;exact HF.sc _
theorem Zr{lo sz:Nat}{mu:Mu}{av:AV}{xs:List (List AV)}(h:OwnF lo mu sz av xs)(c:Cell):OwnF lo (mu++[c]) sz av xs:=⟨Wb h.1 c,h.2.1,by have:=h.2.2;simp;omega⟩
theorem qj2(ts:TS)(h:okTS ts)(wp:∀ p,p∈ts.preds->WfN p.body)(i:Nat)(I:i<ts.preds.length)(hd:depN ts.preds[i].body<=24):qd qb 66 [eTS ts,aI i] (lDg (jP ts i)):=by
 have a5:=h.pl _ (qt I);have ag:=h.np;have c1:=mv ts h wp i zOm ts.preds[i].params ⟨zOm,a5.2⟩ zOm ts.preds[i].body (wp _ (qt I)) hd;have c2:=Yy (ckR ts i) (VI h zOm) ts.preds[i].name;have a6:=qj1 I;have hp:jP ts i=dups [(ts.preds.take i).any (fun y=>eP ts.preds[i] y)]++(dups (repL eM ts.preds[i].params)++rp (jN (mkCk ts i) ts.preds[i].params ts.preds[i].body)):=by
  unfold jP;rw[qv I];simp only;rw[gA,qv I]
 rw[hp];generalize hD:jN (mkCk ts i) ts.preds[i].params ts.preds[i].body=D at *
 generalize hb:(ts.preds.take i).any (fun y=>eP ts.preds[i] y)=b at *
 have ah:(dups [b]).length<=1:=by cases b<;>simp[dups]
 refine qSU call66 func66 rfl ?_;refine qg.intro zKr ?_;simp[go_sem,I];refine qc.pure c2 (.zk (zn _) (.zs (.zs .nil))) ?_;have wk:WKs [eTS ts,aI i,lPm ts.preds[i].params,eNd ts.preds[i].body] [eTS ts,aI i,lPm ts.preds[i].params,eNd ts.preds[i].body] := .zk (zn _) (.zs (.zk (Z6 _) (.zk (za _) .nil)));have af:=JW;have fin:∀ st:St,True:=fun _=>trivial
 rcases a6 with ⟨p,hc,a0⟩|⟨hc,a0⟩
 case' inl =>
  subst a0;rw[hc];have a7:(0:Int)<=(p:Int):=zOm;simp[go_sem,idxO,a7];refine uV (lo:=0) (xs:=[]) (ys:=[(41,0)]) (OwnF.nil zSp) (by simp[qH]) zSp fun ai m0 a8 _=>?_
  simp[go_sem,I]
 case' inr =>
  subst a0;rw[hc];simp[go_sem,idxO,I]
 all_goals
  generalize a9:ts.preds[i]=l at *
 case' inl =>
  refine qh.upK l.params.length (fun k st=>st.tm 2 = .ip (cTS ts)/\st.tm 1=aI i/\st.tm 6=lPm l.params/\st.tm 7=aI k/\OwnF 0 st.mu 2 (st.tm 5) ((dups [true]++dups ((repL eM l.params).take k)).map cDg)) ?_ ?_
  .exact ⟨zSi,zSi,zSi,zSi,by simpa[go_sem,dups] using a8⟩
 case' inr =>
  refine qh.upK l.params.length (fun k st=>st.tm 2 = .ip (cTS ts)/\st.tm 1=aI i/\st.tm 6=lPm l.params/\st.tm 7=aI k/\OwnF 0 st.mu 2 (st.tm 5) ((dups [false]++dups ((repL eM l.params).take k)).map cDg)) ?_ ?_
  .exact ⟨zSi,zSi,zSi,zSi,by simp[go_sem,dups];exact OwnF.nil zSp⟩
 all_goals
  rintro k st hk ⟨e2,e1,e6,e7,ho⟩;have a4:(dups ((repL eM l.params).take k)).length<=k:=zV (Y16.v8 _) (List.length_take_le ..);generalize h5:st.tm 5=P at *
  by_cases C:k<l.params.length
  .have a1:=Xw eM l.params k C
   have wi:=zWk k;simp[go_sem,e6,e7,C];refine qh.upK k (fun j st2=>st2.tm 2 = .ip (cTS ts)/\st2.tm 1=aI i/\st2.tm 6=lPm l.params/\st2.tm 7=aI k/\st2.tm 5=P/\st2.tm 9=aI j/\st2.tm 8=aB ((l.params.take j).any fun y=>eM l.params[k] y)/\st2.mu=st.mu) ?_ ?_
   .exact ⟨zS1 e2,zS1 e1,zS1 e6,zS1 e7,zS1 h5,zSi,zSi,zSi⟩
   rintro j st2 hj ⟨f2,f1,f6,f7,f5,f9,f8,fm⟩;generalize hT:(l.params.take j).any (fun y=>eM l.params[k] y)=T at *
   by_cases J:j<k
   .have a2:j<l.params.length:=by omega
    have wj:=zWk j;have o:=VJ (fun y=>eM l.params[k] y) l.params j a2;rw[hT]at o;simp[go_sem,f7,f9,J];refine qg.intro zKr ?_;cases T with
    |true =>
     rw[Bool.true_or]at o;simp[go_sem,f9,f8,J,wj];exact Keep.mk' ⟨zS1 f2,zS1 f1,zS1 f6,zS1 f7,zS1 f5,zSi,by rw[o];simp[go_sem],zS1 fm⟩
    |false =>
     rw[Bool.false_or]at o;by_cases hq:l.params[j].1=l.params[k].1
     .have t:(l.params.take (j+1)).any (fun y=>eM l.params[k] y)=true:=by rw[o];exact decide_eq_true hq.symm
      simp[go_sem,f6,f7,f9,f8,J,a2,C,wj,hq];exact Keep.mk' ⟨zS1 f2,zS1 f1,zS1 f6,zS1 f7,zS1 f5,zSi,by rw[t];simp[go_sem],zS1 fm⟩
     .have t:(l.params.take (j+1)).any (fun y=>eM l.params[k] y)=false:=by rw[o];exact decide_eq_false fun e=>hq e.symm
      simp[go_sem,f6,f7,f9,f8,J,a2,C,wj,jM hq];exact Keep.mk' ⟨zS1 f2,zS1 f1,zS1 f6,zS1 f7,zS1 f5,zSi,by rw[t];simp[go_sem],zS1 fm⟩
   .have aa:j=k:=by omega
    subst aa;rw[hT]at a1;cases T with
    |true =>
     simp[go_sem,f7,f5,f9,f8,fm];refine uV (ys:=[(41,0)]) ho (by simp[qH]) zSo fun ab m' R ad=>?_
     simp[go_sem,f7,wi];exact⟨C,Keep.mk' ⟨zS1 f2,zS1 f1,zS1 f6,zSi,by rw[a1,Zq,<-zc];simpa[go_sem,ui] using R⟩⟩
    |false =>
     simp[go_sem,f7,f9,f8,fm,wi];exact⟨C,Keep.mk' ⟨zS1 f2,zS1 f1,zS1 f6,zSi,by rw[a1,Zq];simpa[go_sem,ui,f5,fm] using ho⟩⟩
  .have ae:k=l.params.length:=by omega
   subst ae;rw[zK (by rw[uO];exact qn _)]at ho a4;simp[go_sem,e6,e7];refine qg.intro zKr ?_;simp[go_sem,e2,e1,e6,I,a9];refine qc.pure c1 wk ?_;by_cases U:D.1=0
   .have a3:rp D=[]:=if_pos U
    rw[a3];simp[go_sem,h5,U];exact rdDg (Zr ho _)
   .have a3:rp D=[D]:=if_neg U
    rw[a3];simp[go_sem,h5,U];refine uV (ys:=[D]) (Zr ho _) (by simp[qH]) (by simp only[qU,List.length_singleton];omega) fun ab m' R ad=>?_
    simp[go_sem];rw[zc]at R;exact rdDg R
theorem Z8(f:Nat->List Dg)(n:Nat):(qo (n+1)).flatMap f=(qo n).flatMap f++f n:=by
 rw[List.range_succ,List.flatMap_append];simp only[wC,List.flatMap_nil,zL]
theorem qj3(ts:TS)(h:okTS ts)(wp:∀ p,p∈ts.preds->WfN p.body)(wf:∀ f,f∈ts.facts->WfN f.2)(dp:∀ p,p∈ts.preds->depN p.body<=24)(df:∀ f,f∈ts.facts->depN f.2<=24):qd qb 29 [eTS ts] (lDg (yW ts)):=by
 have al:=h.np;have an:=h.nfa;have hD:(dups (repL eS ts.sorts)++dups (repL eF ts.fields)).length<=10:=by
  have a1:=Y16.v8 (repL eS ts.sorts);have a2:=Y16.v8 (repL eF ts.fields);rw[uO]at a1 a2;have:=h.ns;have:=h.nf;rw[qU];omega
 have hC:yW ts=(dups (repL eS ts.sorts)++dups (repL eF ts.fields))++((qo ts.preds.length).flatMap (jP ts)++(qo ts.facts.length).flatMap (uP ts ts.facts)):=by
  unfold yW;rw[zc]
 rw[hC];have a9:=qj0 ts h [];generalize dups (repL eS ts.sorts)++dups (repL eF ts.fields)=D0 at *
 refine qSU call29 func29 rfl ?_;refine qc.eff0 a9 (fun r m hr=>?_) (fun r m hr=>?_)
 case refine_2 =>
  obtain⟨P,e,_⟩:=hr;cases e
 obtain⟨ao,e,aa,_⟩:=hr;cases e;simp[go_sem];refine qh.upK ts.preds.length (fun i st=>st.tm 1 = .ip (cTS ts)/\st.tm 4=aI i/\OwnF 0 st.mu 2 (st.tm 3) ((D0++(qo i).flatMap (jP ts)).map cDg)) ?_ ?_
 .exact ⟨zSi,zSi,zVs aa⟩
 rintro i st hi ⟨R,e4,U⟩;have ak:=Y16.Wg (jP ts) (Y16.kY h) i;generalize h3:st.tm 3=P at *
 by_cases g:i<ts.preds.length
 .have l:=Z8 (jP ts) i
  have aq:=Y16.kY h i;have ab:=qj2 ts h wp i g (dp _ (qt g));have wi:=zWk i;generalize jP ts i=PD at *
  simp[go_sem,R,e4,h3,g];refine qc.zP ab (.zk (zn ts) (.zs .nil)) ?_;refine uV (ys:=PD) U (by simp[qH]) (by simp only[qU];omega) fun ad m' a0 ae=>?_
  simp[go_sem,e4,wi];exact⟨g,Keep.mk' ⟨zS1 R,zSi,by rw[l,<-zc];simpa[go_sem] using a0⟩⟩
 .have a4:i=ts.preds.length:=by omega
  subst a4;simp[go_sem,R,e4];generalize (qo ts.preds.length).flatMap (jP ts)=P0 at *
  refine qh.upK ts.facts.length (fun i st=>st.tm 1 = .ip (cTS ts)/\st.tm 5=aI i/\OwnF 0 st.mu 2 (st.tm 3) (((D0++P0)++(qo i).flatMap (uP ts ts.facts)).map cDg)) ?_ ?_
  .exact ⟨zS1 R,zSi,by simpa[go_sem,h3] using U⟩
  clear U R e4 h3 g hi st;rintro i st hi ⟨R,e4,U⟩;have af:=Y16.Wg (uP ts ts.facts) (Y16.qeZ ts ts.facts) i;generalize h3:st.tm 3=ag at *
  by_cases g:i<ts.facts.length
  .have l:=Z8 (uP ts ts.facts) i
   have ah:uP ts ts.facts i=dups [(ts.facts.take i).any (fun y=>eA ts.facts[i] y)]++rp (ye ts [] ts.facts[i].2):=by
    unfold uP;rw[qv g];simp only;rw[gA,qv g]
   rw[ah]at l;have cf:=Xv ts h wp [] ⟨zSp,zSp⟩ zSp ts.facts[i].2 (wf _ (qt g)) (df _ (qt g));have wi:=zWk i;generalize ye ts [] ts.facts[i].2=D at *
   simp[go_sem,R,e4,g];refine qh.upK i (fun k st2=>st2.tm 1 = .ip (cTS ts)/\st2.tm 5=aI i/\st2.tm 3=ag/\st2.tm 7=aI k/\st2.tm 6=aB ((ts.facts.take k).any fun y=>eA ts.facts[i] y)/\st2.mu=st.mu) ?_ ?_
   .exact ⟨zS1 R,zS1 e4,zS1 h3,zSi,zSi,zSi⟩
   rintro k st2 hk ⟨f1,f4,f3,f6,f5,fm⟩;generalize hT:(ts.facts.take k).any (fun y=>eA ts.facts[i] y)=T at *
   by_cases a3:k<i
   .have a5:k<ts.facts.length:=by omega
    have wk:=zWk k;have o:=VJ (fun y=>eA ts.facts[i] y) ts.facts k a5;rw[hT]at o;simp[go_sem,f4,f6,a3];refine qg.intro zKr ?_;cases T with
    |true =>
     rw[Bool.true_or]at o;simp[go_sem,f6,f5,a3,wk];exact Keep.mk' ⟨zS1 f1,zS1 f4,zS1 f3,zSi,by rw[o];simp[go_sem],zS1 fm⟩
    |false =>
     rw[Bool.false_or]at o;by_cases hq:ts.facts[k].1=ts.facts[i].1
     .have C:(ts.facts.take (k+1)).any (fun y=>eA ts.facts[i] y)=true:=by rw[o];exact decide_eq_true hq.symm
      simp[go_sem,f1,f4,f6,f5,a3,a5,g,wk,hq];exact Keep.mk' ⟨zS1 f1,zS1 f4,zS1 f3,zSi,by rw[C];simp[go_sem],zS1 fm⟩
     .have C:(ts.facts.take (k+1)).any (fun y=>eA ts.facts[i] y)=false:=by rw[o];exact decide_eq_false fun e=>hq e.symm
      simp[go_sem,f1,f4,f6,f5,a3,a5,g,wk,jM hq];exact Keep.mk' ⟨zS1 f1,zS1 f4,zS1 f3,zSi,by rw[C];simp[go_sem],zS1 fm⟩
   .have ai:k=i:=by omega
    subst ai;rw[hT]at l;have a6:WKs [eTS ts,.lst true [],eNd ts.facts[k].2] [eTS ts,lPm [],eNd ts.facts[k].2] := .zk (zn ts) (.cons (WK.lst fun r hr=>absurd hr qD) (.zk (za _) .nil));have ar:=kA;cases T with
    |true =>
     simp[go_sem,f4,f3,f6,f5,fm];refine uV (ys:=[(41,0)]) U (by simp[qH]) (by simp only[qU,List.length_singleton];omega) fun ad m' a0 ae=>?_
     simp[go_sem];refine qg.intro zKr ?_;simp[go_sem,f1,f4,g];refine qc.pure cf a6 ?_;by_cases t:D.1=0
     .have I:rp D=[]:=if_pos t
      rw[I,zL]at l;simp[go_sem,f4,wi,t];exact⟨g,Keep.mk' ⟨zS1 f1,zSi,by rw[l,<-zc];simpa[go_sem,ui] using Zr a0 (.arr [aI 0,aI D.2])⟩⟩
     .have I:rp D=[D]:=if_neg t
      rw[I]at l;simp[go_sem,t];refine uV (ys:=[D]) (Zr a0 _) (by simp[qH]) (by simp only[qU,List.length_singleton];omega) fun a7 aj J a8=>?_
      simp[go_sem,f4,wi];exact⟨g,Keep.mk' ⟨zS1 f1,zSi,by rw[l,<-zc];simpa[go_sem,ui,zc] using J⟩⟩
    |false =>
     simp[go_sem,f4,f6,f5,fm];refine qg.intro zKr ?_;simp[go_sem,f1,f4,g];refine qc.pure cf a6 ?_;by_cases t:D.1=0
     .have I:rp D=[]:=if_pos t
      rw[I,zL]at l;simp[go_sem,f4,wi,t];exact⟨g,Keep.mk' ⟨zS1 f1,zSi,by rw[l,<-zc];simpa[go_sem,ui,f3] using Zr U (.arr [aI 0,aI D.2])⟩⟩
     .have I:rp D=[D]:=if_neg t
      rw[I]at l;simp[go_sem,f3,t];refine uV (ys:=[D]) (Zr U _) (by simp[qH]) (by simp only[qU,List.length_singleton];omega) fun a7 aj J a8=>?_
      simp[go_sem,f4,wi];exact⟨g,Keep.mk' ⟨zS1 f1,zSi,by rw[l,<-zc];simpa[go_sem,ui,zc] using J⟩⟩
  .have a4:i=ts.facts.length:=by omega
   subst a4;simp[go_sem,R,e4,h3];rw[zc]at U;exact rdDg U
end QU
namespace QP
end QP
namespace QV
end QV
namespace QW
open YS YF Y9 Y1 Y2 YZ YA P1 P2
section
variable {nm:ByteArray}{l:List ByteArray}
abbrev rNm(b:ByteArray):List AV:=[aS b]
abbrev lNm(l:List ByteArray):AV := .lst false (l.map rNm)
def namL(n:Nd):List ByteArray:=((preN n).filter fun x=>decide (x.name≠⟨#[]⟩)).map Nd.name
def ju(l:List Nd):List ByteArray:=((zj l).filter fun x=>decide (x.name≠⟨#[]⟩)).map Nd.name
theorem qj4(n:Nd):namL n=(if n.name=⟨#[]⟩ then [] else [n.name])++ju n.kids:=by
 unfold namL ju;rw[uS,List.filter_cons];by_cases h:n.name=⟨#[]⟩
 .simp [h]
 .simp [h]
theorem VK:∀ a b:List Nd,zj (a++b)=zj a++zj b
 | [],b=>rfl
 |x :: a,b=>by rw[List.cons_append];simp only[zj];rw[VK a b,zc]
theorem qj5(a:List Nd)(k:Nd):ju (a++[k])=ju a++namL k:=by
 unfold ju namL;rw[VK];simp[zj]
theorem qj6(l:List Nd):(ju l).length<=(zj l).length:=by
 unfold ju;rw[zJ];exact List.length_filter_le ..
theorem VL(n:Nd):(namL n).length<=(preN n).length:=by
 unfold namL;rw[zJ];exact List.length_filter_le ..
theorem Xx(l:List ByteArray):zg 1 (l.map rNm):=fun r g=>by
 obtain⟨x,_,rfl⟩:=qk.1 g;exact⟨rfl,rfl⟩
theorem mw(l:List ByteArray):HF (lNm l):=HF.lst fun r i c g=>by
 obtain⟨x,_,rfl⟩:=qk.1 i;rw[qN]at g;subst g;exact HF.sc _
theorem rdNm{lo:Nat}{mu:Mu}{av:AV}(h:OwnF lo mu 1 av (l.map rNm)):Rd mu av (lNm l):=
 h.1.rd (Xx l).ok fun r i c g=>by
  obtain⟨x,_,rfl⟩:=qk.1 i;rw[qN]at g;subst g;exact HF.sc _
theorem appNm{mu:Mu}{lo:Nat}{s x:AV}{xs ys:List ByteArray}{K:AV->Mu->Prop}(g:OwnF lo mu 1 s (xs.map rNm))(j:qH mu x=some (ys.map rNm))(t:xs.length+ys.length<=1000000)(o:∀ av l,OwnF lo l 1 av ((xs++ys).map rNm)->(∀ i,i<lo->l[i]?=mu[i]?)->K av l) :
  qA qb mu #[199,199] s x K:=by
 refine qA.ownF (lo:=lo) (e:=9) (sz:=1) (bt:=16) (zv:=aS ⟨#[]⟩) (xs:=xs.map rNm) (ys:=ys.map rNm) zSi zSi zSi rfl rfl zOm zOm g j (Xx xs) (Xx ys) zSo ?_;intro av l h r;exact o av l (by rw[zd];exact h) r
theorem qj7(l:List Nd)(k:Nat):(zj (l.take k)).length<=(zj l).length:=by
 have:zj l=zj (l.take k)++zj (l.drop k):=by rw[<-VK,List.take_append_drop]
 rw[this,qU];omega
theorem Xy:∀(m:Nat) (n:Nd),szN n<=m->yf n->∀(lo:Nat) (mu:Mu) (av:AV) (xs:List ByteArray),OwnF lo mu 1 av (xs.map rNm)->xs.length+(preN n).length<=500000 ->
  qL qb 171 [av,eNd n] mu fun e C=>∃ g,e = .ret g/\OwnF lo C 1 g ((xs++namL n).map rNm)/\∀ i,i<lo->C[i]?=mu[i]?
 | 0,n,J,_=>by obtain⟨op,nm,i,ks,p⟩:=n;simp[szN]at J
 |m+1,n,J,hs=>by
  intro lo mu av xs I hl;have ih:∀ k,k∈n.kids->∀(lo:Nat) (mu:Mu) (av:AV) (xs:List ByteArray),OwnF lo mu 1 av (xs.map rNm)->xs.length+(preN k).length<=500000->qL qb 171 [av,eNd k] mu fun e C=>∃ g,e = .ret g/\OwnF lo C 1 g ((xs++namL k).map rNm)/\∀ i,i<lo->C[i]?=mu[i]?:=fun k T =>
   Xy m k (zW1 (yv T)) (hs.kid T)
  have aa:=hs.len;have o:=qj4 n;have ab:(preN n).length=1+(zj n.kids).length:=by rw[uS,zq];omega
  refine qSW call171 func171 rfl {} ?_;by_cases P:n.name=⟨#[]⟩
  case' pos =>
   rw[if_pos P,um]at o;simp[go_sem,P];refine qh.upK n.kids.length (fun k st=>st.tm 3 = .ip (cNd n)/\st.tm 5=aI k/\OwnF lo st.mu 1 (st.tm 0) ((xs++ju (n.kids.take k)).map rNm)/\∀ i,i<lo->st.mu[i]?=mu[i]?) ?_ ?_
   .exact ⟨zSi,zSi,by simpa[go_sem,ju,zj] using I,zSi⟩
   generalize U:xs=X at *
   have a0:X.length+(zj n.kids).length<=500000:=zOm;have t:X++ju n.kids=X++namL n:=by rw[o]
  case' neg =>
   rw[if_neg P]at o;have a1:n.name.toList.isEmpty=false:=by simpa using jM P
   simp[go_sem,a1];refine appNm (ys:=[n.name]) I (by simp[qH]) (by simp only[List.length_singleton];omega) fun g C a2 a3=>?_
   simp[go_sem];refine qh.upK n.kids.length (fun k st=>st.tm 3 = .ip (cNd n)/\st.tm 5=aI k/\OwnF lo st.mu 1 (st.tm 0) (((xs++[n.name])++ju (n.kids.take k)).map rNm)/\∀ i,i<lo->st.mu[i]?=mu[i]?) ?_ ?_
   .exact ⟨zSi,zSi,by simpa[go_sem,ju,zj] using a2,zVs a3⟩
   generalize U:xs++[n.name]=X at *
   have a0:X.length+(zj n.kids).length<=500000:=by rw[<-U,qU,List.length_singleton];omega
   have t:X++ju n.kids=xs++namL n:=by rw[o,<-U,zc]
  all_goals
   rintro k st T ⟨R,e5,I,J⟩;generalize h0:st.tm 0=a4 at *
   by_cases l:k<n.kids.length
   .have w1:=zWk k
    have a5:ju (n.kids.take (k+1))=ju (n.kids.take k)++namL n.kids[k]:=by rw[jF l,qj5]
    have ad:(zj (n.kids.take (k+1))).length=(zj (n.kids.take k)).length+(preN n.kids[k]).length:=by rw[jF l,VK];simp[zj]
    have h1:=qj7 n.kids (k+1);have h2:=qj6 (n.kids.take k);simp[go_sem,R,e5,h0,l,qO];refine qc.eff0 (ih n.kids[k] (qt l) lo st.mu a4 _ I (by rw[qU];omega)) (fun r m2 hr=>?_) (fun r m2 hr=>?_)
    .obtain ⟨a6,e,a7,a8⟩:=hr
     cases e;simp[go_sem,R,e5,w1];exact⟨l,Keep.mk' ⟨zS1 R,zSi,by rw[a5,<-zc];simpa[go_sem] using a7,by simp only[zi];exact fun i hi=>(a8 i hi).trans (J i hi)⟩⟩
    .obtain ⟨a6,e,_⟩:=hr
     cases e
   .have a9:k=n.kids.length:=by omega
    subst a9;rw[qX,t]at I;simp[go_sem,R,e5,h0];exact⟨zUs I,J⟩
def takL(ts:TS)(n:Nd):List ByteArray:=namL n++ts.preds.flatMap fun p=>namL p.body
theorem qj8(ts:TS)(h:okTS ts)(wp:∀ p,p∈ts.preds->WfN p.body)(n:Nd)(hw:WfN n)(hl:(preN n).length<=400)(hp:∀ p,p∈ts.preds->(preN p.body).length<=400):qd qb 122 [eTS ts,eNd n] (lNm (takL ts n)):=by
 have a2:=h.np;have hk:∀ i (o:i<ts.preds.length),ts.preds.take (i+1)=ts.preds.take i++[ts.preds[i]]:=fun i o=>jF o
 have I:∀ i,((ts.preds.take i).flatMap fun p=>namL p.body).length<=400*i:=by
  intro i;induction i with
  |zero=>simp
  |succ i ih =>
   by_cases o:i<ts.preds.length
   .rw [hk i o,List.flatMap_append,qU]
    have h1:=VL ts.preds[i].body;have h2:=hp _ (qt o);simp only[wC,List.flatMap_nil,zL];omega
   .have e1:ts.preds.take (i+1)=ts.preds:=zK zOm
    have l:ts.preds.take i=ts.preds:=zK zOm;rw[e1];rw[l]at ih;omega
 have hn:=VL n;refine qSU call122 func122 rfl ?_;refine qc.eff0 (Xy (szN n) n (qn _) hw.small 0 [] (.lst true []) [] (OwnF.nil zSp) zSo) (fun r J j=>?_) (fun r J j=>?_)
 case refine_2 =>
  obtain⟨t,e,_⟩:=j;cases e
 obtain⟨a3,e,C,_⟩:=j;cases e;rw[um]at C;simp[go_sem];refine qh.upK ts.preds.length (fun k st=>st.tm 2 = .ip (cTS ts)/\st.tm 6=aI k/\OwnF 0 st.mu 1 (st.tm 5) ((namL n++(ts.preds.take k).flatMap fun p=>namL p.body).map rNm)) ?_ ?_
 .exact ⟨zSi,zSi,zVs C⟩
 rintro k st a4 ⟨l,P,R⟩;generalize h5:st.tm 5=T at *
 by_cases g:k<ts.preds.length
 .have w1:=zWk k
  have U:(ts.preds.take (k+1)).flatMap (fun p=>namL p.body)=(ts.preds.take k).flatMap (fun p=>namL p.body)++namL ts.preds[k].body:=by
   rw[hk k g,List.flatMap_append];simp only[wC,List.flatMap_nil,zL]
  have h1:=I k;have h2:=hp _ (qt g);simp[go_sem,l,P,h5,g,JW];refine qc.eff0 (Xy (szN ts.preds[k].body) ts.preds[k].body (qn _) (wp _ (qt g)).small 0 st.mu T _ R (by rw[qU];omega)) (fun r J j=>?_) (fun r J j=>?_)
  .obtain ⟨t,e,a0,_⟩:=j
   cases e;simp[go_sem,l,P,w1];exact⟨g,Keep.mk' ⟨zS1 l,zSi,by rw[U,<-zc];simpa[go_sem] using a0⟩⟩
  .obtain ⟨t,e,_⟩:=j
   cases e
 .have a1:k=ts.preds.length:=by omega
  subst a1;rw[qX]at R;simp[go_sem,l,P,h5];exact rdNm R
def inL(nm:ByteArray)(l:List ByteArray):Bool:=l.any fun x=>decide (x=nm)
theorem Xz:inL nm l=true↔nm∈l:=by
 unfold inL;simp
theorem my(h:¬nm∈l):inL nm l=false:=by
 cases e:inL nm l with
 |false=>rfl
 |true=>exact absurd (Xz.1 e) h
theorem hasU(l:List ByteArray)(nm:ByteArray)(P:l.length<=1000000):qd qb 208 [lNm l,aS nm] (aB (inL nm l)):=by
 refine qSU call208 func208 rfl ?_;refine qh.upK l.length (fun k st=>st.tm 0=lNm l/\st.tm 1=aS nm/\st.tm 5=aI k/\∀ x,x∈l.take k->x≠nm) ?_ ?_
 .exact ⟨zSi,zSi,zSi,zSp⟩
 rintro k st R ⟨i,j,r,t⟩;by_cases g:k<l.length
 .have J:=zWk k
  by_cases o:l[k]=nm
  .have C:inL nm l=true:=Xz.2 (o ▸ qt g)
   rw[C];simp[go_sem,i,j,r,g,o];exact .zsc _
  .simp [go_sem,i,j,r,g,jM o,J]
   refine Keep.mk' ⟨zS1 i,zS1 j,zSi,fun x p=>?_⟩;rw[jF g,qC,qN]at p;rcases p with p|rfl
   .exact t x p
   .exact o
 .have I:k=l.length:=by omega
  subst I;rw[qX]at t;have C:inL nm l=false:=my fun h=>t nm h rfl
  rw[C];simp[go_sem,i,j,r];exact .zsc _
theorem qj9(u:Nat)(h:u<10):ByteArray.empty.push (UInt8.ofNat ((48:Int)+(u:Int)).toNat)=jd u:=by
 unfold jd;rw[Lib.itoa_nonneg,Lib.decDigits_one h,show ((48:Int)+(u:Int)).toNat=48+u by omega];rfl
theorem qkA(u:Nat)(h:¬u<10):jd ((u / 10:Nat):Int)++ByteArray.empty.push (UInt8.ofNat ((48:Int)+((u % 10:Nat):Int)).toNat)=jd u:=by
 unfold jd;rw[Lib.itoa_nonneg,Lib.itoa_nonneg,Lib.decDigits.eq_1 u,dif_neg h,show ((48:Int)+((u % 10:Nat):Int)).toNat=48+u % 10 by omega];apply ByteArray.ext;simp
theorem digU:∀(m u:Nat),u<=m->u<=1000000000->qd qb 207 [aI u] (aS (jd u))
 |m,u,J,P=>by
  have r:qs.wrap (48+(u:Int))=48+(u:Int):=zWr;refine qSV call207 func207 rfl ?_;by_cases h:u<10
  .have i:(u:Int)<10:=by omega
   have t:IntKind.u8.wrap (48+(u:Int))=48+(u:Int):=IntWalk.u8_in _ ⟨zOm,zOm⟩;have g:=qj9 u h;simp[go_sem,i,r,t,g];exact .zsc _
  .have i:¬(u:Int)<10:=by omega
   have C:=digU (u / 10) (u / 10) (qn _) zOm;have g:=qkA u h;simp[go_sem,i];refine qg.intro zKr ?_;have I:qs.wrap ((u:Int) / 10)=((u / 10:Nat):Int):=by rw[show ((u:Int) / 10)=((u / 10:Nat):Int) from rfl];exact zWr
   have t3:(u:Int).tmod 10=((u % 10:Nat):Int):=rfl;have o:qs.wrap (48+((u % 10:Nat):Int))=48+((u % 10:Nat):Int):=zWr;have p:IntKind.u8.wrap (48+((u % 10:Nat):Int))=48+((u % 10:Nat):Int):=IntWalk.u8_in _ ⟨zOm,zOm⟩;have j:=gl ((u / 10:Nat):Int) zOm zOm;simp[go_sem,I];refine qc.pure C (.zs .nil) ?_;have c1:((u / 10:Nat):Int)=(u:Int) / 10:=rfl;have c2:((u % 10:Nat):Int)=(u:Int) % 10:=rfl;rw[c1]at j g;rw[c2]at o p g;have l:(jd ((u:Int) / 10)).size<=9223372036854775806:=zOm;simp[go_sem,t3,o,p,l,g];exact .zsc _
end
end QW
end Go.Proofs.YtahmfpfdgiemoaaGreatDoor
