/-
  Own library, part 4: an abstract reading of values and a calculus over it; contracts of functions; plain lemmas.
-/
import Derived.Test.YthkdjhkmlmjkbaaGreatDoorMc
set_option linter.unusedVariables false
set_option linter.unusedSimpArgs false
set_option maxRecDepth 100000
open Go renaming Value->qg,World->qf,Program->qb,FuncId->j1
open Go.Proofs.Tryz renaming prog->qc
open List renaming getElem?_eq_some_iff->qi,mem_cons->ql,mem_map->qp,range->qq,getElem_mem->qv,getElem?_eq_getElem->qx,mem_cons_of_mem->qB,not_mem_nil->qG,mem_append->qI,mem_singleton->qL,mem_cons_self->qN,length_append->qW,all_eq_true->q8,take_length->za,getElem?_append_left->ze,getD_eq_getElem?_getD->zf,mem_of_getElem?->zh,getElem?_map->zj,append_assoc->zm,take_of_length_le->zn,replicate->zo,drop_eq_getElem_cons->zB,length_cons->zC,map_append->zF,mem_range->zG,getElem?_append_right->zK,ext_getElem?->zZ,length_map->yi,drop_length->yr,mem_filter->yT,cons_append->yU,mem_of_mem_take->ja,pairwise_cons->ji,take_succ_eq_append_getElem->jx,getElem?_eq_none->jG,getElem?_set_ne->jV,mem_flatMap->ul,take_append_drop->un,length_take->uZ,foldl_append->Qi
open Option.some renaming injEq->qo
open Nat renaming le_refl->qs,le_trans->zS,zero_add->yI
open Bool renaming and_eq_true->qu,eq_iff_iff->jZ,or_eq_true->vr
open Go.IntKind renaming i64->qw
open Option renaming map_some->qZ,map_eq_some_iff->yA
open List.Nodup renaming length_le_of_subset->jI
open Prod.mk renaming injEq->vu
open Except.ok renaming injEq->vw
open Int renaming mul_le_mul->uq
namespace Go.Proofs.YthkdjhkmlmjkbaaGreatDoor
open Go Go.Ev Go.Proofs Tryz
namespace GC
open GA GB
section
variable {x:Int}{vs:List Bool}{a b:List Int}{nS:Nat}{S T:Sts}
def zx(s f:Int):List Int->List Int->List Ed
 | [],[]=>[]
 |x :: a,[]=>⟨2,s,f,x⟩ :: zx s f a []
 | [],y :: b=>⟨1,s,f,y⟩ :: zx s f [] b
 |x :: a,y :: b=>if x<y then ⟨2,s,f,x⟩ :: zx s f a (y :: b) else if y<x then ⟨1,s,f,y⟩ :: zx s f (x :: a) b else zx s f a b
termination_by a b=>a.length+b.length
theorem J8{y}(h:(y :: b).Pairwise (·<·))(i:x<y):x ∉ y :: b:=fun g=>by
 rcases ql.1 g with rfl|g
 .omega
 grind [ji]
theorem w8{s f e}:∀{a b},a.Pairwise (·<·)->b.Pairwise (·<·)->(e∈zx s f a b↔(e.state=s/\e.field=f)/\((e.kind=2/\e.tup∈a/\e.tup ∉ b)\/(e.kind=1/\e.tup∈b/\e.tup ∉ a)))
 | [],[],_,_=>by simp[zx]
 |x :: a,[],C,I=>by
  rw[zx,ql,w8 (ji.1 C).2 I];obtain⟨k,st,R,t⟩:=e;simp only[Ed.mk.injEq,ql,qG,not_false_eq_true,and_true,false_and,and_false,or_false];constructor
  .rintro (⟨rfl,rfl,rfl,rfl⟩|⟨o,j,g⟩)
   .exact ⟨⟨rfl,rfl⟩,rfl,.inl rfl⟩
   .exact ⟨o,j,.inr g⟩
  .rintro ⟨⟨rfl,rfl⟩,rfl,rfl|h⟩
   .exact .inl ⟨rfl,rfl,rfl,rfl⟩
   .exact .inr ⟨⟨rfl,rfl⟩,rfl,h⟩
 | [],y :: b,C,I=>by
  rw[zx,ql,w8 C (ji.1 I).2];obtain⟨k,st,R,t⟩:=e;simp only[Ed.mk.injEq,ql,qG,not_false_eq_true,and_true,false_and,and_false,false_or];constructor
  .rintro (⟨rfl,rfl,rfl,rfl⟩|⟨o,j,g⟩)
   .exact ⟨⟨rfl,rfl⟩,rfl,.inl rfl⟩
   .exact ⟨o,j,.inr g⟩
  .rintro ⟨⟨rfl,rfl⟩,rfl,rfl|h⟩
   .exact .inl ⟨rfl,rfl,rfl,rfl⟩
   .exact .inr ⟨⟨rfl,rfl⟩,rfl,h⟩
 |x :: a,y :: b,C,I=>by
  have p:=ji.1 C;have r:=ji.1 I;rw[zx];by_cases o:x<y
  .rw [if_pos o,ql,w8 p.2 I]
   have U:=J8 I o;have P:x ∉ a:=fun h=>zW1 (p.1 x h)
   obtain⟨k,st,R,t⟩:=e;simp only[Ed.mk.injEq];constructor
   .rintro (⟨rfl,rfl,rfl,rfl⟩|⟨o,⟨j,g,i⟩|⟨j,g,i⟩⟩)
    .exact ⟨⟨rfl,rfl⟩,.inl ⟨rfl,qN ..,U⟩⟩
    .exact ⟨o,.inl ⟨j,qB _ g,i⟩⟩
    .refine ⟨o,.inr ⟨j,g,fun l=>?_⟩⟩
     rcases ql.1 l with rfl|l
     .exact U g
     .exact i l
   .rintro ⟨⟨rfl,rfl⟩,⟨rfl,g,i⟩|⟨rfl,g,i⟩⟩
    .rcases ql.1 g with rfl|g
     .exact .inl ⟨rfl,rfl,rfl,rfl⟩
     .exact .inr ⟨⟨rfl,rfl⟩,.inl ⟨rfl,g,i⟩⟩
    .exact .inr ⟨⟨rfl,rfl⟩,.inr ⟨rfl,g,fun h=>i (qB _ h)⟩⟩
  rw[if_neg o];by_cases j:y<x
  .rw [if_pos j,ql,w8 C r.2]
   have hy:=J8 C j;have a0:y ∉ b:=fun h=>zW1 (r.1 y h)
   obtain⟨k,st,R,t⟩:=e;simp only[Ed.mk.injEq];constructor
   .rintro (⟨rfl,rfl,rfl,rfl⟩|⟨o,⟨j,g,i⟩|⟨j,g,i⟩⟩)
    .exact ⟨⟨rfl,rfl⟩,.inr ⟨rfl,qN ..,hy⟩⟩
    .refine ⟨o,.inl ⟨j,g,fun l=>?_⟩⟩
     rcases ql.1 l with rfl|l
     .exact hy g
     .exact i l
    .exact ⟨o,.inr ⟨j,qB _ g,i⟩⟩
   .rintro ⟨⟨rfl,rfl⟩,⟨rfl,g,i⟩|⟨rfl,g,i⟩⟩
    .exact .inr ⟨⟨rfl,rfl⟩,.inl ⟨rfl,g,fun h=>i (qB _ h)⟩⟩
    .rcases ql.1 g with rfl|g
     .exact .inl ⟨rfl,rfl,rfl,rfl⟩
     .exact .inr ⟨⟨rfl,rfl⟩,.inr ⟨rfl,g,i⟩⟩
  rw[if_neg j,w8 p.2 r.2];obtain rfl:x=y:=zOm;have P:x ∉ a:=fun h=>zW1 (p.1 x h)
  have T:x ∉ b:=fun h=>zW1 (r.1 x h)
  refine and_congr Iff.rfl (or_congr (and_congr Iff.rfl ?_) (and_congr Iff.rfl ?_))
  .constructor
   .rintro ⟨g,i⟩
    refine⟨qB _ g,fun l=>?_⟩;rcases ql.1 l with J|l
    .rw [J]at g;exact P g
    .exact i l
   .rintro ⟨g,i⟩
    rcases ql.1 g with J|g
    .exact absurd (by rw[J];exact qN ..) i
    .exact ⟨g,fun h=>i (qB _ h)⟩
  .constructor
   .rintro ⟨g,i⟩
    refine⟨qB _ g,fun l=>?_⟩;rcases ql.1 l with J|l
    .rw [J]at g;exact T g
    .exact i l
   .rintro ⟨g,i⟩
    rcases ql.1 g with J|g
    .exact absurd (by rw[J];exact qN ..) i
    .exact ⟨g,fun h=>i (qB _ h)⟩
termination_by a b=>a.length+b.length
theorem pg(h:x∈b):outL (x :: a) b=outL a b:=by simp[outL,h]
theorem J9(h:x ∉ b):(outL (x :: a) b).length=(outL a b).length+1:=by simp[outL,h]
theorem Va{y}(h:y ∉ a):outL a (y :: b)=outL a b:=by
 grind [outL,List.filter_congr]
theorem Zi{s f}:∀{a b},a.Pairwise (·<·)->b.Pairwise (·<·)->(zx s f a b).length=(outL a b).length+(outL b a).length
 | [],[],_,_=>by simp[zx,outL]
 |x :: a,[],g,i=>by
  rw[zx,zC,Zi (ji.1 g).2 i,J9 zSp];simp[outL]
 | [],y :: b,g,i=>by
  rw[zx,zC,Zi g (ji.1 i).2,J9 (a:=b) zSp];simp[outL]
 |x :: a,y :: b,g,i=>by
  have j:=ji.1 g;have l:=ji.1 i;rw[zx];by_cases o:x<y
  .have C:=J8 i o
   rw[if_pos o,zC,Zi j.2 i,J9 C,Va C];omega
  rw[if_neg o];by_cases p:y<x
  .have I:=J8 g p
   rw[if_pos p,zC,Zi g l.2,J9 (a:=b) I,Va (b:=b) I];omega
  obtain rfl:x=y:=zOm;have r:x ∉ a:=fun h=>zW1 (j.1 x h)
  have t:x ∉ b:=fun h=>zW1 (l.1 x h)
  rw[if_neg p,Zi j.2 l.2,pg (qN ..),pg (a:=b) (qN ..),Va r,Va t]
termination_by a b=>a.length+b.length
def jg(nS nF:Nat)(S T:Sts):List Ed:=(qq nS).flatMap fun s:Nat=>(qq nF).flatMap fun f:Nat=>zx (s:Int) (f:Int) (getR S s f).ts (getR T s f).ts
theorem Vb{nF}(h:Shp nS nF S)(k:Shp nS nF T){e}:e∈jg nS nF S T↔∃ s f,s<nS/\f<nF/\(e.state=s/\e.field=f)/\((e.kind=2/\e.tup∈(getR S s f).ts/\e.tup ∉ (getR T s f).ts)\/(e.kind=1/\e.tup∈(getR T s f).ts/\e.tup ∉ (getR S s f).ts)):=by
 simp only[jg,ul,zG];constructor
 .rintro ⟨s,g,f,hf,i⟩
  exact⟨s,f,g,hf,(w8 (h.srt s f g hf) (k.srt s f g hf)).1 i⟩
 .rintro ⟨s,f,g,hf,i⟩
  exact⟨s,g,f,hf,(w8 (h.srt s f g hf) (k.srt s f g hf)).2 i⟩
def Fix(vs:List Bool)(nS nF:Nat)(S:Sts):Prop:=∀ s g f,s<nS->g<nS->f<nF->vs.getD f true=false->getR S s f=getR S g f
theorem ph{s f t c}:∀{l}(w),(∀ e,e∈l->mine vs s f t e=true->decide (e.kind=1)=c)->(∃ e,e∈l/\mine vs s f t e=true)->Zh vs s f t l w=c
 | [],w,_,h=>by grind
 |e :: l,w,i,h=>by
  unfold Zh;rw[List.foldl_cons];by_cases o:∃ x,x∈l/\mine vs s f t x=true
  .exact ph _ (fun x g=>i x (qB _ g)) o
  .have p:∀ x,x∈l->mine vs s f t x=false:=fun x g=>by
    grind
   obtain⟨x,g,j⟩:=h;rcases ql.1 g with rfl|g
   .rw [if_pos j,i _ (qN ..) j]
    clear i j g o;induction l with
    |nil=>rfl
    |cons y l r =>
     grind
   grind
theorem pi{s f t}:∀{l}(w),(∀ e,e∈l->mine vs s f t e=false)->Zh vs s f t l w=w
 | [],w,_=>rfl
 |e :: l,w,h=>by
  unfold Zh;rw[List.foldl_cons,h e (qN ..)];exact pi w fun x g=>h x (qB _ g)
theorem qgB{nF}(h:Shp nS nF S)(k:Shp nS nF T)(R:Fix vs nS nF S)(U:Fix vs nS nF T)(ha:∀ s f,s<nS->f<nF->(getR S s f).ar=(getR T s f).ar):(jg nS nF S T).foldl (fun S e=>edSt vs e S) S=T:=by
 refine qgA h.eds k (fun s f j hf=>by rw[pf j hf h];grind) fun s f t j hf=>?_
 have key:=pb (vs:=vs) (t:=t) j hf (l:=jg nS nF S T) h;have hm:∀ e,e∈jg nS nF S T->mine vs s f t e=true->(e.kind=2/\t∈(getR S s f).ts/\t ∉ (getR T s f).ts)\/(e.kind=1/\t∈(getR T s f).ts/\t ∉ (getR S s f).ts):=fun e r i=>by
  obtain⟨C,f',p,a0,⟨e1,e2⟩,J⟩:=(Vb h k).1 r;simp only[mine,qu,decide_eq_true_eq,hits,vr,Bool.not_eq_true',e1,e2,Int.toNat_natCast]at i;obtain⟨rfl,g,rfl⟩:=i;rcases g with g|g
  .obtain rfl:s=C:=by omega
   exact J
  .rw [R s C f j p hf g,U s C f j p hf g];exact J
 by_cases P:t∈(getR S s f).ts↔t∈(getR T s f).ts
 .rw [pi _ fun e r=>by
   grind]at key
  grind
 .have hx:∃ e,e∈jg nS nF S T/\mine vs s f t e=true:=by
   by_cases o:t∈(getR S s f).ts
   .have g:t ∉ (getR T s f).ts:=fun g=>P ⟨fun _=>g,fun _=>o⟩
    exact⟨⟨2,s,f,t⟩,(Vb h k).2 ⟨s,f,j,hf,⟨rfl,rfl⟩,.inl ⟨rfl,o,g⟩⟩,by simp[mine,hits]⟩
   .have g:t∈(getR T s f).ts:=Classical.byContradiction fun g=>P ⟨fun q=>absurd q o,fun q=>absurd q g⟩
    exact⟨⟨1,s,f,t⟩,(Vb h k).2 ⟨s,f,j,hf,⟨rfl,rfl⟩,.inr ⟨rfl,g,o⟩⟩,by simp[mine,hits]⟩
  rw[ph (c:=decide (t∈(getR T s f).ts)) _ (fun e r i=>by
   rcases hm e r i with ⟨I,o,g⟩|⟨I,o,g⟩
   .simp [I,g]
   .simp [I,o]) hx]at key
  grind
theorem qgC{nF b}(h:Shp nS nF S)(k:Shp nS nF T)(r:b.length=nF)(g:∀ s f (hf:f<nF),s<nS->(∀ t,t∈(b[f]' zOm).lo.ts->t∈(getR T s f).ts)/\∀ t,t∈(getR T s f).ts->t∈(b[f]' zOm).up.ts):∀ e,e∈jg nS nF S T->errE nS nF b e=0:=fun e j=>by
 obtain⟨s,f,l,hf,⟨C,I⟩,J⟩:=(Vb h k).1 j;have i:b[e.field.toNat]?=some (b[f]' zOm):=by grind
 obtain⟨P,R⟩:=g s f hf l;unfold errE;rw[if_neg,i]
 .simp only
  rw[if_neg];rintro (⟨o,p⟩|⟨o,p⟩)
  .grind
  grind
 omega
end
end GC
namespace EU
end EU
namespace EC
end EC
namespace EY
open EO
theorem pj(p)(C:p.length<=1000000000):qh qc 71 [lI p] (lI p):=by
 refine qSV call71 func71 rfl ?_;cases p with
 |nil =>
  simp[go_sem,lI];refine⟨.wk _ true _ (.hf _ (HF.lst (full:=true) (xs:=[]) fun r j=>by simp at j)),?_⟩;refine aN (e:=3) (bt:=8) (z:=0) (l:=[]) (ys:=[]) zSi zSi zSi zOm (.inl ⟨rfl,rfl⟩) (by simp[qF]) zSp ?_;intro P g i _ _ _;simp[go_sem];exact i.v.rd
 |cons x l =>
  simp[go_sem,lI];refine aN (e:=3) (bt:=8) (z:=0) (l:=[]) (ys:=x :: l) zSi zSi zSi zOm (.inl ⟨rfl,rfl⟩) (by simp[qF]) (by grind) ?_;intro P g i _ _ _;simp[go_sem];exact i.v.rd
end EY
namespace GD
open E3 E4 F1 GA GB
section
variable {C:Type}{p:C->C->Bool}
theorem w6(xs:List Int):(xs.map rI).flatten=xs.map aI:=by
 induction xs with
 |nil=>rfl
 |cons x xs g=>simp[g]
theorem Wm{G h xs v}(r:VRel G h (lI xs) v):xs=[]/\(∃ a c,v = .slice a 0 c)\/xs≠[]/\∃ b off c arr e o,v = .slice (some ⟨b,off,none⟩) xs.length c/\h[b]?=some (.cells arr e o)/\∀ j,j<xs.length->arr[off+j]?=some (.int .i64 (xs.getD j 0)):=by
 by_cases R:xs=[]
 .subst R
  refine .inl ⟨rfl,?_⟩;change VRel G h (.lst false []) v at r;cases r with
  |nil=>exact⟨_,_,rfl⟩
  |emp _ a cap t=>exact⟨_,_,rfl⟩
  |lst _ _ p a cap T e o rd C I hl t hi hz J U=>exact⟨_,_,rfl⟩
 .refine .inr ⟨R,?_⟩
  change VRel G h (.lst false (xs.map rI)) v at r;generalize P:xs.map rI=l at r;have g:l.length=xs.length:=by grind
  cases r with
  |nil=>grind
  |emp _ a cap t=>grind
  |lst _ _ p a cap T e o rd C I hl t hi hz J U =>
   obtain⟨b,off,a0⟩:=a;simp only at I C J;subst I;refine⟨b,off,cap,T,e,o,by rw[g],C,fun j hj=>?_⟩;have i:l.flatten[j]?=some (aI (xs.getD j 0)):=by
    rw[<-P];have:(xs.map rI).flatten=xs.map aI:=w6 xs
    grind
   have h1:=J j _ i;have h2:=U j _ i;generalize rd j=u at h1 h2;cases h2;exact h1
def yF(xs:List Int)(x:Int):Nat:=xs.countP (fun y=>decide (y<x))
theorem binU(xs x)(hl:xs.length<=1000000000)(J:xs.Pairwise (·<=·)):qh qc 55 [lI xs,aI x] (.tup [aI (yF xs x),aB (decide (x∈xs))]):=by
 refine⟨call55,fun i w vs I P=>?_⟩;obtain⟨u,v,rfl,R,T⟩:=P.two_inv;cases T;have g:∀ t:qf,VRel ⟨i,[]⟩ t.heap (.tup [aI (yF xs x),aB (decide (x∈xs))]) (.tuple #[.int .i64 (yF xs x:Nat),.bool (decide (x∈xs))]):=by
  intro t;refine .tup _ _ rfl (fun k y p=>?_);cases k with
  |zero=>simp at p;subst p;exact .sc _ rfl
  |succ k=>cases k with
   |zero=>simp at p;subst p;exact .sc _ rfl
   |succ k=>simp at p
 rcases Wm R with ⟨rfl,a,c,rfl⟩|⟨U,b,off,c,arr,e,fr,rfl,o,hc⟩
 .refine (Tryz.slices_BinarySearch_int_empty a c x w).mono fun e t ⟨r,C⟩=>?_
  subst C;refine⟨i,_,r,fun _ h=>h,fun b o=>⟨I.imm b o,.inl o⟩,⟨RowKit.Below.refl _ _,qs _⟩,?_⟩;exact g _
 .have l:∀ j,j<xs.length->w.cell? ⟨b,off+j,none⟩=some (.int .i64 (xs.getD j 0)):=by
   simp_all[World.cell?,Option.isSome_none,Bool.false_eq_true,if_false]
  refine(Tryz.slices_BinarySearch_int b off xs.length c xs x w (qs _) zOm l (by rw[za];exact J)).mono fun e t ⟨r,q,C⟩=>?_
  subst C;rw[za]at r;have e2:xs.contains x=decide (x∈xs):=by
   rw[jZ];simp
  rw[e2]at r;refine⟨i,_,r,fun _ h=>h,fun b o=>⟨I.imm b o,.inl o⟩,⟨⟨rfl,rfl,rfl,qs _,fun _ _=>rfl⟩,Nat.le_add_right _ _⟩,?_⟩;exact g _
def Zj(P:qb)(l:AV){C:Type}(enc:C->AV)(ok:C->C->Prop)(p:C->C->Bool):Prop:=
 HF l/\∃ j i,l = .fn (.func j) [] i/\∀ x y,ok x y->∃ g,WKs ([enc x,enc y]++i) g/\qh P j g (aB (p x y))
theorem Zj.call{P l enc ok}(h:Zj P l enc ok p){x y}(o:ok x y){det mu K r}(k:K (aB (p x y)) mu):qe P det mu l [enc x,enc y] K r:=by
 obtain⟨_,j,i,rfl,h⟩:=h;obtain⟨g,t,I⟩:=h x y o;exact .inl ⟨_,.inl ⟨j,[],i,g,rfl,I,.inl (zUs t)⟩,k⟩
def z7(p:C->C->Bool):List C->List C->Bool
 |x :: J,y :: r=>p x y&&z7 p J r
 | [],[]=>true
 |_,_=>false
theorem Wn(p):∀(xs ys:List C),xs.length≠ys.length->z7 p xs ys=false
 | [],[],h=>absurd rfl h
 | [],_ :: _,_=>rfl
 |_ :: _,[],_=>rfl
 |x :: xs,y :: ys,h=>by
  simp_all[z7,Wn,Bool.and_false]
theorem pn(p)(xs ys:List C)(k g)(i:k<ys.length):z7 p (xs.drop k) (ys.drop k)=(p xs[k] ys[k]&&z7 p (xs.drop (k+1)) (ys.drop (k+1))):=by
 grind [zB,z7]
theorem w9(f):HF (.fn (.func f) [] []):=HF.fn (fun c g=>by simp at g) (fun c g=>by simp at g)
theorem pp(xs ys C p)(hf:Zj qc C lRel (fun x y=>x∈xs/\y∈ys) p)(U:xs.length<=1000000000) :
  qh qc 51 [lSt xs,lSt ys,C] (aB (z7 p xs ys)):=by
 refine qSU call51 func51 rfl ?_;by_cases g:xs.length=ys.length
 rotate_left
 .simp [go_sem,g,Wn p xs ys g]
  exact .zsc _
 simp[go_sem,g];refine qn.up xs.length (fun k st=>st.tm 1=lSt ys/\st.tm 2=C/\st.tm 15=lSt xs/\st.tm 16=aI xs.length/\st.tm 17=aI k/\z7 p (xs.drop k) (ys.drop k)=z7 p xs ys) ?_ ?_
 .simp [go_sem,g]
 rintro k st hk ⟨J,P,t,l,o,r⟩;by_cases j:k<xs.length
 .have i:k<ys.length:=by omega
  rw[pn p xs ys k j i]at r;simp[go_sem,J,P,t,l,o,j,i];refine Zj.call (enc:=lRel) hf ⟨qv j,qv i⟩ ?_;cases R:p xs[k] ys[k] with
  |true =>
   rw[R,Bool.true_and]at r;simp[go_sem,J,P,t,l,o,j];exact⟨zWr,r⟩
  |false =>
   rw[R,Bool.false_and]at r;simp[go_sem];rw[<-r];exact .zsc _
 .have I:k=xs.length:=by omega
  subst I;rw[yr,g,yr]at r;simp[go_sem,l,o];rw[<-r];exact .zsc _
theorem xorU(a b)(ha:a.length<=1000000)(hb:b.length<=1000000)(R:b.Pairwise (·<·)):qh qc 52 [lI a,lI b] (aI (xorN a b)):=by
 refine qSV call52 func52 rfl ?_;have T:qw.wrap ((a.length:Int)+b.length)=(a.length:Int)+b.length:=zWr;simp[go_sem,T];refine qn.up a.length (fun k st=>st.tm 1=lI b/\st.tm 5=aI ((a.length:Int)+b.length-2*(yE (a.take k) b).length)/\st.tm 15=lI a/\st.tm 16=aI a.length/\st.tm 17=aI k) ?_ ?_
 .simp [go_sem,yE]
 rintro k st hk ⟨C,r,l,g,i⟩;by_cases j:k<a.length
 .have o:=binU b a[k] zOm (R.imp fun h=>zOm)
  have p:a.take (k+1)=a.take k++[a[k]]:=by rw[List.take_add_one,qx j];rfl
  have U:(yE (a.take k) b).length<=k:=by
   have:=List.length_filter_le (fun x=>decide (x∈b)) (a.take k);rw[uZ]at this;show (List.filter _ _).length<=k;omega
  simp[go_sem,C,l,g,i,j];refine cY o (.zk (qR _) (.zs .nil)) ?_;have P:qw.wrap ((k:Int)+1)=((k+1:Nat):Int):=by rw[zWr];omega
  by_cases t:a[k]∈b
  .have I:yE (a.take (k+1)) b=yE (a.take k) b++[a[k]]:=by
    unfold yE;rw[p,List.filter_append,List.filter_cons];generalize List.filter (fun x=>decide (x∈b)) (a.take k)=l0;simp[t]
   have w3:qw.wrap ((a.length:Int)+b.length-2*(yE (a.take k) b).length-2)=(a.length:Int)+b.length-2*(yE (a.take k) b).length-2:=zWr;simp[go_sem,C,r,l,g,i,j,t,P,w3];rw[I,qW];simp;omega
  .have I:yE (a.take (k+1)) b=yE (a.take k) b:=by
    unfold yE;rw[p,List.filter_append,List.filter_cons];generalize List.filter (fun x=>decide (x∈b)) (a.take k)=l0;simp[t]
   simp[go_sem,C,r,l,g,i,j,t,P];rw[I]
 .have J:k=a.length:=by omega
  subst J;rw[za]at r;simp[go_sem,r,g,i];exact .zsc _
theorem qgD(a b)(g:a.sC.length<=1000000):qh qc 50 [eSc a,eSc b] (aB (decide (a.sN=b.sN)&&decide (a.sC=b.sC))):=by
 refine qSU call50 func50 rfl ?_;by_cases h:a.sN=b.sN
 .simp [go_sem,h]
  refine fY (J5 a.sC b.sC zOm) (.zk (qR _) (.zk (qR _) .nil)) ?_;exact .zsc _
 .simp [go_sem,h]
  exact .zsc _
theorem qgE(x y):qh qc 49 [lRel x,lRel y] (aB (decide (x.length=y.length))):=by
 refine qSU call49 func49 rfl ?_;exact .zsc _
theorem Vc(f):∀(xs ys:List C)(k g)(i:k<ys.length),sumZ f (xs.take (k+1)) (ys.take (k+1))=sumZ f (xs.take k) (ys.take k)+f xs[k] ys[k]
 |x :: xs,y :: ys,0,_,_=>by simp[sumZ]
 |x :: xs,y :: ys,k+1,g,i=>by
  simp only[List.take_succ_cons,sumZ,List.getElem_cons_succ];rw[Vc f xs ys k (zUs g) (zUs i)];omega
 | [],_,_,g,_=>by simp at g
 |_ :: _,[],_,_,i=>by simp at i
theorem Vd{f M}(g:0<=M):∀(xs ys:List C),(∀ x y,x∈xs->y∈ys->-M<=f x y/\f x y<=M)->-(xs.length*M)<=sumZ f xs ys/\sumZ f xs ys<=xs.length*M
 | [],_,_=>by simp[sumZ]
 |_ :: xs,[],_=>by
  have:0<=((xs.length:Int)+1)*M:=Int.mul_nonneg zOm g;simp[sumZ];omega
 |x :: xs,y :: ys,h=>by
  have l:=h x y zSp zSp;have o:=Vd g xs ys fun a b i j=>h a b (zP1 i) (zP1 j)
  have e:((xs.length+1:Nat):Int)*M=xs.length*M+M:=by rw[Int.natCast_add,Int.add_mul];omega
  grind [sumZ,zC]
def xorR(r q:Rl):Int:=xorN r.ts q.ts
def xorT(s t:List Rl):Int:=sumZ xorR s t
def xorS(S T:Sts):Int:=sumZ xorT S T
theorem pq{a b}(g:a.length<=1000)(i:b.length<=1000) : -2000<=xorN a b/\xorN a b<=2000:=by
 grind [List.length_filter_le,decide,xorN,yE]
structure SmS (S:Sts):Prop where
 n:S.length<=1000
 f:∀ s,s∈S->s.length<=1000
 t:∀ s,s∈S->∀ r,r∈s->r.ts.length<=1000/\r.ts.Pairwise (·<·)
theorem Wo{s t}(o:s.length<=1000)(g:∀ r,r∈s->r.ts.length<=1000)(i:∀ r,r∈t->r.ts.length<=1000) : -2000000<=xorT s t/\xorT s t<=2000000:=by
 have:=Vd (f:=xorR) (M:=2000) zOm s t fun x y j l=>pq (g x j) (i y l)
 have p:(s.length:Int)*2000<=2000000:=zOm;unfold xorT;omega
def Ve(a b:Md):Int:=if decide (a.sc.sN=b.sc.sN)&&(decide (a.sc.sC=b.sc.sC)&&z7 (fun x y=>decide (x.length=y.length)) a.sK b.sK) then xorS a.sK b.sK+(if a.loop=b.loop then 0 else 1) else -1
theorem pr:∀{xs ys},z7 p xs ys=true->xs.length=ys.length/\∀(k g)(i:k<ys.length),p xs[k] ys[k]=true
 | [],[],_=>⟨rfl,fun k g=>by simp at g⟩
 |x :: xs,y :: ys,h=>by
  rw[z7,qu]at h;obtain⟨g,i⟩:=pr h.2;refine⟨zP1 g,fun k j l=>?_⟩;cases k with
  |zero=>exact h.1
  |succ k=>exact i k (zUs j) (zUs l)
 | [],_ :: _,h=>by simp[z7]at h
 |_ :: _,[],h=>by simp[z7]at h
theorem qgF(a b)(ga:SmS a.sK)(gb:SmS b.sK)(a6:a.sc.sC.length<=1000000):qh qc 13 [eMd a,eMd b] (aI (Ve a b)):=by
 generalize I:Ve a b=R;unfold Ve at I;refine qSU call13 func13 rfl ?_;refine cY (qgD a.sc b.sc a6) (.zk (zM _) (.zk (zM _) .nil)) ?_;by_cases h1:a.sc.sN=b.sc.sN
 case neg =>
  simp[h1]at I;subst I;simp[go_sem,h1];exact .zsc _
 by_cases h2:a.sc.sC=b.sc.sC
 case neg =>
  simp[h2]at I;subst I;simp[go_sem,h1,h2];exact .zsc _
 simp[go_sem,h1,h2];refine cY (pp a.sK b.sK _ (fun x y=>decide (x.length=y.length)) ⟨w9 _,_,_,rfl,fun x y a9=>⟨[lRel x,lRel y],by simpa using WKs.zk (wd x) (.zk (wd y) .nil),qgE x y⟩⟩ (zW1 ga.n)) (.zk (Zf _) (.zk (Zf _) (.zk (w9 _) .nil))) ?_;cases h3:z7 (fun x y=>decide (x.length=y.length)) a.sK b.sK with
 |false =>
  simp[h3]at I;subst I;simp[go_sem];exact .zsc _
 |true =>
  simp[h1,h2,h3]at I;obtain⟨a8,a4⟩:=pr h3;have hn:=ga.n;simp[go_sem];refine qn.up a.sK.length (fun k st=>st.tm 2 = .ip (cMd a)/\st.tm 3 = .ip (cMd b)/\st.tm 6=aI (xorS (a.sK.take k) (b.sK.take k))/\st.tm 27=lSt a.sK/\st.tm 28=aI a.sK.length/\st.tm 29=aI k) ?_ ?_
  .simp [go_sem,xorS,sumZ]
  rintro k st hk ⟨e2,e3,e6,J,o,p⟩;by_cases C:k<a.sK.length
  .have i:k<b.sK.length:=by omega
   have hl:=of_decide_eq_true (a4 k C i);have aa:=ga.f _ (qv C);have a0:=ga.t _ (qv C);have U:=gb.t _ (qv i);have hD : -(2000000000:Int)<=xorS (a.sK.take k) (b.sK.take k)/\xorS (a.sK.take k) (b.sK.take k)<=2000000000:=by
    have:=Vd (f:=xorT) (M:=2000000) zOm (a.sK.take k) (b.sK.take k) fun x y hx hy=>Wo (ga.f x (ja hx)) (fun r P=>(ga.t x (ja hx) r P).1) (fun r P=>(gb.t y (ja hy) r P).1)
    rw[uZ]at this;have h5:((min k a.sK.length:Nat):Int)*2000000<=2000000000:=zOm;unfold xorS;omega
   generalize a7:xorS (a.sK.take k) (b.sK.take k)=D at *
   simp[go_sem,J,o,p,C];refine qn.up a.sK[k].length (fun j st=>st.tm 2 = .ip (cMd a)/\st.tm 3 = .ip (cMd b)/\st.tm 6=aI (D+xorT (a.sK[k].take j) (b.sK[k].take j))/\st.tm 7=aI k/\st.tm 27=lSt a.sK/\st.tm 28=aI a.sK.length/\st.tm 29=aI k/\st.tm 34=lRel a.sK[k]/\st.tm 35=aI a.sK[k].length/\st.tm 36=aI j) ?_ ?_
   .simp [go_sem,e2,e3,e6,J,o,p,xorT,sumZ]
   rintro j st hj ⟨e2,e3,e6,e7,J,o,p,a5,a1,a2⟩;by_cases T:j<a.sK[k].length
   .have g:j<b.sK[k].length:=by omega
    have hx:=xorU a.sK[k][j].ts b.sK[k][j].ts (zW1 ((a0 _ (qv T)).1)) (zW1 ((U _ (qv g)).1)) (U _ (qv g)).2;simp[go_sem,a5,a1,a2,T];refine cN zKr ?_;simp[go_sem,e3,e6,e7,g,i];refine cY hx (.zk (qR _) (.zk (qR _) .nil)) ?_;simp[go_sem,e2,e3,e7,J,o,p,a5,a1,a2,T];have hs:=Vc xorR a.sK[k] b.sK[k] j T g;have ab:=Wo (s:=a.sK[k].take j) (t:=b.sK[k].take j) (by rw[uZ];omega) (fun r P=>(a0 r (ja P)).1) (fun r P=>(U r (ja P)).1);have ad:=pq (a0 _ (qv T)).1 (U _ (qv g)).1;refine⟨?_,zWr⟩;rw[zWr];unfold xorT at *
    rw[hs];unfold xorR;omega
   .have a3:j=a.sK[k].length:=by omega
    subst a3;simp[go_sem,e2,e3,e6,J,o,p,a1,a2];have hs:=Vc xorT a.sK b.sK k C i;refine⟨C,?_,zWr⟩;unfold xorS at *
    rw[hs,a7,zn (l:=b.sK[k]) zOm]
  .have a3:k=a.sK.length:=by omega
   subst a3;rw[zn (l:=a.sK) (qs _),zn (l:=b.sK) zOm]at e6;have hD : -(2000000000:Int)<=xorS a.sK b.sK/\xorS a.sK b.sK<=2000000000:=by
    have:=Vd (f:=xorT) (M:=2000000) zOm a.sK b.sK fun x y hx hy=>Wo (ga.f x hx) (fun r P=>(ga.t x hx r P).1) (fun r P=>(gb.t y hy r P).1)
    have h5:(a.sK.length:Int)*2000000<=2000000000:=zOm;unfold xorS;omega
   simp[go_sem,e2,e3,o,p];by_cases h6:a.loop=b.loop
   .rw [if_pos h6]at I
    simp[go_sem,e6,h6];rw[<-I,Int.add_zero];exact .zsc _
   .rw [if_neg h6]at I
    have w1:qw.wrap (xorS a.sK b.sK+1)=xorS a.sK b.sK+1:=zWr;simp[go_sem,e6,h6,w1];rw[<-I];exact .zsc _
end
end GD
namespace EZ
end EZ
namespace Y10
open Y2 P1 Y9
theorem Zk(ts):∀ k,k<=ts.sT.length->(tmsL ts k).length=k
 | 0,_=>rfl
 |k+1,h=>by
  have g:k<ts.sT.length:=zOm;simp[tmsL,Zk ts k zOm,qx g]
theorem uK{ts}(h:okTS ts){k}(g:k<=ts.sT.length):okCk (mkCk ts k):=⟨h,g,Nat.le_of_eq (Zk ts k g).symm⟩
theorem pt(a b:cL):(a.toList == b.toList)=decide (a=b):=by
 grind [jN,decide_eq_false]
theorem Wp{mu sz s xs}(h:Own mu sz s xs)(c):Own (mu++[c]) sz s xs:=by
 rcases h with rfl|⟨b,rfl,g⟩
 .exact .inl rfl
 .exact .inr ⟨b,rfl,by grind⟩
end Y10
namespace Y11
open Y1 Y2 P1
def cKo:Option Kd->List AV
 |some k=>cKd k
 |none=>[aI 0,.sc (.map none)]
@[go_sem] theorem cKo_some(k):cKo (some k)=cKd k:=rfl
@[go_sem] theorem cKo_none:cKo none=[aI 0,.sc (.map none)]:=rfl
def endK:Res->AEnd
 | .ok k => .ret (.agg (cKo k))
 | .error e => .pan (J1 e.1 e.2)
@[go_sem] theorem endK_ok(k):endK (.ok k) = .ret (.agg (cKo k)):=rfl
@[go_sem] theorem qpU(e):endK (.error e) = .pan (J1 e.1 e.2):=rfl
end Y11
namespace Y12
open Y2 P1 Y6 Y8
def trF(t:Tp):Tp:=[t.getD 1 0,t.getD 0 0,0]
theorem Wq{a:List Tp}{t}:t∈uni [] (a.map fun t=>[t.getD 1 0,t.getD 0 0,0])↔∃ x,x∈a/\trF x=t:=by
 rw[vE];simp[trF]
structure ApOk (op:Int) (l:List (Option Kd)):Prop where
 one:op=5->∃ a,l=[a]
 bin:op=11\/op=12\/op=13->∃ a,l=[some a]/\okK a/\(a.ar=2->ok2 a)
 two:op=6\/op=14\/op=7\/op=8\/op=32\/op=33\/op=9\/op=10->∃ a b,l=[some a,some b]/\okK a/\okK b
theorem Wr{ns op n pos l}(i:op≠2)(j:op≠3)(o:op≠4)(p:op≠5)(r:op≠11)(t:op≠12)(C:op≠13)(t1:op≠6)(t2:op≠14)(t3:op≠7)(t4:op≠8)(t5:op≠32)(t6:op≠33)(I:op≠9)(g:op≠10):zO ns op n pos l = .ok none:=by
 unfold zO;rw[if_neg i,if_neg j,if_neg o];split
 .simp only[p,r,t,C,or_self,if_false]
  split<;>rfl
 .simp only[t1,t2,t3,t4,t5,t6,I,g,or_self,if_false]
 .rfl
end Y12
namespace P2
open Y1 Y2 Y3 P1 Y6 Y8 Y9 Y12
section
variable {a b k:Kd}{l:List Int}{ns:Nat}
def kd(op:Int):Int:=if 1<=op/\op<=15 then 101 else if 20<=op/\op<=23 then 105 else if 30<=op/\op<=51 then 102 else 0
def shp(op:Int)(nk:Nat):Option (List Int):=
 if op=1\/op=2\/op=3\/op=4\/op=20\/op=30\/op=31 then some []
 else if op=5\/op=11\/op=12\/op=13\/op=21\/op=34\/op=35\/op=36\/op=37 then some [101]
 else if op=6\/op=7\/op=8\/op=9\/op=10\/op=14\/op=32\/op=33 then some [101,101]
 else if op=15\/op=45\/op=46 then some [101,102]
 else if op=22\/op=23\/op=38\/op=39 then some [105,105]
 else if op=40\/op=48\/op=49\/op=50 then some [102]
 else if op=41\/op=42\/op=43\/op=44\/op=51 then some [102,102]
 else if op=47 then some (zo (min nk 401) 101)
 else none
inductive WfN:Nd->Prop where
 |mk (n:Nd) (h:shp n.op n.sD.length=some (n.sD.map fun k=>kd k.op)) (hn:n.op=2->1<=n.n/\n.n<=3) (hk:∀ k,k∈n.sD->WfN k):WfN n
theorem WfN.shape{n}(h:WfN n):shp n.op n.sD.length=some (n.sD.map fun k=>kd k.op):=by cases h;assumption
theorem WfN.num{n}(h:WfN n):n.op=2->1<=n.n/\n.n<=3:=by cases h;assumption
theorem WfN.kid{n k}(h:WfN n)(g:k∈n.sD):WfN k:=by
 cases h with
 |mk _ _ _ h=>exact h k g
theorem pu{op nk}(h:shp op nk=some l):l.length<=401:=by
 grind [shp]
theorem WfN.len{n}(h:WfN n):n.sD.length<=401:=by
 have:=pu h.shape;simpa using this
theorem WfN.small{n}(h:WfN n):yf n:=by
 induction h with
 |mk n g j l i=>exact .mk n (by have:=pu g;simp at this;omega) i
structure okKd (ns:Nat) (k:Kd):Prop where
 ar:1<=k.ar/\k.ar<=3
 nd:k.ts.Nodup
 ts:∀ t,t∈k.ts->∃ l,t=pad l/\(l.length:Int)=k.ar/\∀ x,x∈l->0<=x/\x<ns
theorem okKd.okK(h:okKd ns k):okK k:=⟨h.ar,fun t g=>by obtain⟨l,rfl,_⟩:=h.ts t g;rfl,h.nd⟩
theorem okKd.ok2(h:okKd ns k)(o:ns<=4)(g:k.ar=2):ok2 k:=⟨g,h.nd,fun t p=>by
 obtain⟨l,rfl,i,j⟩:=h.ts t p;rw[g]at i
 match l,i with
 | [x,y],_ =>
  have r:=j x zSp;have g:=j y zSp;exact⟨x,y,rfl,zOm,zOm,zOm,zOm⟩⟩
theorem aG(i:k.ar=2)(g:k.ts.Nodup)(h:∀ t,t∈k.ts->∃ x y,t=[x,y,0]/\0<=x/\x<ns/\0<=y/\y<ns):okKd ns k:=⟨zOm,g,fun t j=>by
 obtain⟨x,y,rfl,o,p,r,C⟩:=h t j;exact⟨[x,y],rfl,by rw[i];rfl,fun z l=>by simp at l;omega⟩⟩
theorem okKd.pairs(h:okKd ns k)(g:k.ar=2):∀ t,t∈k.ts->∃ x y,t=[x,y,0]/\0<=x/\x<ns/\0<=y/\y<ns:=fun t p=>by
 obtain⟨l,rfl,i,j⟩:=h.ts t p;rw[g]at i
 match l,i with
 | [x,y],_ =>
  have o:=j x zSp;have g:=j y zSp;exact⟨x,y,rfl,o.1,o.2,g.1,g.2⟩
theorem Ws(j:1<=l.length)(o:l.length<=3)(i:∀ x,x∈l->0<=x/\x<ns):okKd ns (kOf l):=
 ⟨by grind [kOf],by simp[kOf],fun t g=>by
  have g:t∈[pad l]:=g;rw[qL]at g;exact⟨l,g,rfl,i⟩⟩
theorem qgG{n}(h:1<=n/\n<=3):okKd ns ⟨n,[]⟩:=⟨h,zSp,fun t g=>by simp at g⟩
theorem Wt(ns g)(C:1<=g)(I:g<=3):okKd ns (zr ns g):=by
 refine⟨by grind [zr],?_,fun t l=>?_⟩
 .refine List.pairwise_map.2 ((List.pairwise_iff_getElem.2 fun i j o J p=>?_))
  simp only[List.getElem_range];obtain⟨a,rfl⟩:∃ a,g=a+1:=⟨g-1,zOm⟩
  grind [pad]
 .have l:t∈(qq ns).map fun (i:Nat)=>pad (zo g (i:Int)):=l
  obtain⟨i,o,rfl⟩:=qp.1 l;rw[zG]at o;exact⟨_,rfl,by simp[zr],fun x r=>by rw[List.eq_of_mem_replicate r];omega⟩
theorem Yg(i:okKd ns a)(j:okKd ns b)(h:a.ar=b.ar):okKd ns (kSum a b):=by
 refine⟨i.ar,Yc (Yc zSp),fun t g=>?_⟩;have g:t∈uni (uni [] a.ts) b.ts:=g;simp only[vE,qG,false_or]at g;rcases g with g|g
 .exact i.ts t g
 .obtain ⟨l,e,o,p⟩:=j.ts t g
  exact⟨l,e,by rw[o,<-h];rfl,p⟩
theorem qgH(g:okKd ns a):okKd ns (Zb a b):=
 ⟨g.ar,g.nd.filter _,fun t i=>g.ts t (yT.1 i).1⟩
theorem qgI{op}(g:okKd ns a)(i:okKd ns b)(h:a.ar=b.ar):okKd ns (v7 op a b):=by
 grind [v7,Yg,qgH]
theorem Qa(h:l.length<=3)(k)(g:k<=l.length):(pad l).take k=l.take k:=by
 match l,h with
 | [],_=>grind
 | [a],_=>match k,g with
  | 0,_=>rfl
  | 1,_=>rfl
 | [a,b],_=>match k,g with
  | 0,_=>rfl
  | 1,_=>rfl
  | 2,_=>rfl
 | [a,b,c],_=>match k,g with
  | 0,_=>rfl
  | 1,_=>rfl
  | 2,_=>rfl
  | 3,_=>rfl
theorem Yh{g i}(j:g.length<=3)(l:i.length<=3)(s):conc (pad g) g.length (pad i) i.length s=pad (g.take (g.length-s)++i.drop s):=by
 simp_all[conc,Qa,qs,za]
theorem Yi(i:okKd ns a)(j:okKd ns b)(o:1<=a.ar+b.ar-2)(p:a.ar+b.ar-2<=3):okKd ns (zD a b):=by
 refine⟨⟨o,p⟩,qe7,fun t r=>?_⟩;obtain⟨x,y,⟨C,I⟩,hf⟩:=Zd.1 r;obtain⟨g,rfl,J,P⟩:=i.ts x C;obtain⟨l,rfl,R,T⟩:=j.ts y I;have U:=i.ar;have a0:=j.ar;unfold Wd at hf;split at hf
 .simp only[qo]at hf
  rw[show a.ar.toNat=g.length by omega,show b.ar.toNat=l.length by omega,Yh zOm zOm]at hf;refine⟨_,hf.symm,?_,fun z hz=>?_⟩
  .show ((g.take (g.length-1)++l.drop 1).length:Int)=a.ar+b.ar-2
   simp only[qW,uZ,List.length_drop];omega
  grind
 grind
theorem qgJ(i:okKd ns a)(j:okKd ns b)(o:a.ar+b.ar<=3):okKd ns (v5 a b):=by
 have p:=i.ar;have r:=j.ar;refine⟨⟨by grind [v5],o⟩,qe8,fun t C=>?_⟩;obtain⟨x,y,⟨I,J⟩,hf⟩:=J3.1 C;obtain⟨g,rfl,P,R⟩:=i.ts x I;obtain⟨l,rfl,T,U⟩:=j.ts y J;unfold wh at hf;simp only[qo]at hf;rw[show a.ar.toNat=g.length by omega,show b.ar.toNat=l.length by omega,Yh zOm zOm]at hf;refine⟨_,hf.symm,?_,fun z hz=>?_⟩
 .show ((g.take (g.length-0)++l.drop 0).length:Int)=a.ar+b.ar
  simp only[qW,uZ,List.length_drop];omega
 grind
theorem qgK(g:okKd ns a)(i:a.ar=2):okKd ns (kTr a):=by
 refine aG rfl (Yc zSp) (fun t j=>?_);obtain⟨x,l,rfl⟩:=Wq.1 j;obtain⟨p,q,rfl,o,r,C,I⟩:=g.pairs i x l;exact⟨q,p,rfl,C,I,o,r⟩
theorem Vf(i:okKd ns a)(g:a.ar=2):okKd ns (kClo a)/\(kClo a).ar=2:=by
 have:∀(f n:Nat)(a:Kd),okKd ns a->a.ar=2->okKd ns (cloN f n a)/\(cloN f n a).ar=2:=by
  intro f;induction f with
  |zero=>intro n a h g;exact⟨h,g⟩
  |succ f j =>
   intro n a h g;unfold cloN;split
   .exact j _ _ (Yg h (Yi h h zOm zOm) (by grind [zD])) g
   grind
 exact this 70 0 a i g
theorem qgL{op}(g:okKd ns a)(i:a.ar=2):okKd ns (binK ns op a):=by
 unfold binK;split
 .grind [Vf]
 .split
  .exact Yg (Vf g i).1 (Wt ns 2 zOm zOm) (by rw[(Vf g i).2];rfl)
  .exact qgK g i
def ScOk(ns:Nat)(s:Scp):Prop:=∀ v,v∈s->okKd ns v.2/\v.2.ar=1
theorem pv{nm}:∀{s:Scp}{v}{r:Scp},jD nm s=v :: r->v∈s
 | [],v,r,h=>by simp[jD]at h
 |w :: s,v,r,h=>by
  unfold jD at h;split at h
  .cases h;exact qN
  .exact qB _ (pv h)
theorem qgM{ts}(h:okTS ts){nm k}(g:k∈means ts nm):okKd ts.sS.length k:=by
 unfold means at g;rcases qI.1 g with g|g
 .unfold vf at g
  obtain⟨f,hf,e⟩:=List.mem_filterMap.1 g;split at e
  .cases e
   have:=h.fl f hf
   grind [Ws]
  grind
 .have:∀(j:List (cL×Bool))(i:Nat),i+j.length<=ts.sS.length->∀ k,k∈v6 i j nm->okKd ts.sS.length k:=by
   intro j;induction j with
   |nil=>grind [v6]
   |cons s j l =>
    grind [zC,kOf,Ws,v6,wY]
  grind
theorem yx(c s inn n):exam c s inn n =
  if (inn&&zN c n.op n.name)=true then .error (46,n.pos)
  else if n.op=1 then y0 c s n.name n.pos
  else if n.op=47 then
   if (c.ts.sT.any fun p=>decide (p.name=n.name))=true then
    match q9 c n.name with
    |none => .error (45,n.pos)
    |some p=>match c.ts.sT[p]? with
     |none => .error (45,n.pos)
     |some g=>if g.params.length=n.sD.length then z6 c s n.pos g.params n.sD else .error (45,n.pos)
   else .error (40,n.pos)
  else if n.op=15\/n.op=45\/n.op=46 then zQ c s (inn||decide (n.op=15)) n.name n.pos n.sD
  else match qS c s (inn||decide (n.op=12)||decide (n.op=13)) n.sD with
   | .error e => .error e
   | .ok l=>zO c.ts.sS.length n.op n.n n.pos l:=by
 obtain⟨op,i,k,ks,pos⟩:=n;simp only[exam,Nd.op,Nd.name,Nd.n,Nd.sD,Nd.pos];rfl
theorem Vg{c s inn}:∀{ks l},qS c s inn ks = .ok l->l.length=ks.length/\∀(i:Nat) k a,ks[i]?=some k->l[i]?=some a->exam c s inn k = .ok a
 | [],l,h=>by grind [qS,vw]
 |k :: ks,l,h=>by
  simp only[qS]at h;cases g:exam c s inn k with
  |error e=>rw[g]at h;exact absurd h zSp
  |ok a =>
   rw[g]at h;simp only at h;cases j:qS c s inn ks with
   |error e=>rw[j]at h;exact absurd h zSp
   |ok r =>
    rw[j]at h;simp only[vw]at h;subst h;obtain⟨t,C⟩:=Vg j;refine⟨zP1 t,fun i I J o p=>?_⟩;cases i with
    |zero=>simp at o p;subst o;subst p;exact g
    |succ i=>exact C i I J (zUs o) (zUs p)
theorem Vh{op}(h:kd op=101):1<=op/\op<=15:=by
 grind [kd,absurd]
theorem pw(C:ns<=4){n}(R:WfN n){l}(p:l.length=n.sD.length)(h:∀(i:Nat) k a,n.sD[i]?=some k->l[i]?=some a->kd k.op=101->∃ q,a=some q/\okKd ns q) :
  ApOk n.op l/\(n.op=5->∃ a,l=[some a]/\okKd ns a)/\(n.op=11\/n.op=12\/n.op=13->∃ a,l=[some a]/\okKd ns a)/\(n.op=6\/n.op=14\/n.op=7\/n.op=8\/n.op=32\/n.op=33\/n.op=9\/n.op=10->∃ a b,l=[some a,some b]/\okKd ns a/\okKd ns b):=by
 have g:=R.shape;have r:n.op=5\/n.op=11\/n.op=12\/n.op=13->∃ a,l=[some a]/\okKd ns a:=by
  intro j;have e:shp n.op n.sD.length=some [101]:=by
   unfold shp;rw[zIn,if_pos zOm]
  rw[e]at g;simp only[qo]at g
  match o:n.sD,g with
  | [k],g =>
   simp at g;rw[o]at p
   match l,p with
   | [a],_ =>
    obtain⟨q,rfl,J⟩:=h 0 k a (by rw[o];rfl) rfl g.symm
    grind
  | [],g=>simp at g
  |_ :: _ :: _,g=>simp at g
 have P:n.op=6\/n.op=14\/n.op=7\/n.op=8\/n.op=32\/n.op=33\/n.op=9\/n.op=10->∃ a b,l=[some a,some b]/\okKd ns a/\okKd ns b:=by
  intro j;have e:shp n.op n.sD.length=some [101,101]:=by
   unfold shp;rw[zIn,zIn,if_pos zOm]
  rw[e]at g;simp only[qo]at g
  match o:n.sD,g with
  | [k,T],g =>
   simp at g;rw[o]at p
   match l,p with
   | [a,b],_ =>
    obtain⟨q,rfl,J⟩:=h 0 k a (by rw[o];rfl) rfl g.1.symm;obtain⟨U,rfl,I⟩:=h 1 T b (by rw[o];rfl) rfl g.2.symm;exact⟨q,U,rfl,J,I⟩
  | [],g=>simp at g
  | [_],g=>simp at g
  |_ :: _ :: _ :: _,g=>simp at g
 refine⟨⟨fun j=>?_,fun j=>?_,fun j=>?_⟩,fun j=>r (.inl j),fun j=>r (.inr j),P⟩
 .obtain ⟨a,rfl,_⟩:=r (.inl j);exact⟨_,rfl⟩
 .obtain ⟨a,rfl,t⟩:=r (.inr j);exact⟨a,rfl,t.okK,t.ok2 C⟩
 .obtain ⟨a,b,rfl,t,hb⟩:=P j;exact⟨a,b,rfl,t.okK,hb.okK⟩
theorem uL{c}(J:okCk c):∀ m n s inn R,szN n<=m->WfN n->ScOk c.ts.sS.length s->exam c s inn n = .ok R->kd n.op=101->∃ k,R=some k/\okKd c.ts.sS.length k
 | 0,n,_,_,_,hm,_,_,_,_=>by obtain⟨op,nm,i,ks,p⟩:=n;simp[szN]at hm
 |m+1,n,s,inn,R,hm,t,T,h,U=>by
  have ho:=Vh U;have a0:=J.ts.ns;rw[yx]at h;split at h
  .grind
  split at h
  .unfold y0 at h
   split at h
   .rename_i v r hf
    simp only[vw]at h;exact⟨v.2,h.symm,(T v (pv hf)).1⟩
   .split at h
    .grind
    .rename_i k C
     simp only[vw]at h;exact⟨k,h.symm,qgM J.ts (by rw[C];simp)⟩
    grind
  split at h
  .omega
  split at h
  .rename_i hb
   have g:=t.shape;have e:shp n.op n.sD.length=some [101,102]:=by
    unfold shp;rw[zIn,zIn,zIn,if_pos zOm]
   rw[e]at g;simp only[qo]at g
   match C:n.sD,g with
   | [a,f],g =>
    simp at g;rw[C]at h;simp only[zQ]at h;cases hq:exam c s (inn||decide (n.op=15)) a with
    |error e=>grind
    |ok q =>
     obtain⟨k,rfl,a6⟩:=uL J m a s _ q (by have:=yw (n:=n) (k:=a) (by rw[C];simp);omega) (t.kid (by rw[C];simp)) T hq g.1.symm
     grind
   | [],g=>simp at g
   | [_],g=>simp at g
   |_ :: _ :: _ :: _,g=>simp at g
  .rename_i n1 a7 nb
   cases hl:qS c s (inn||decide (n.op=12)||decide (n.op=13)) n.sD with
   |error e=>grind
   |ok l =>
    rw[hl]at h;simp only at h;obtain⟨I,a3⟩:=Vg hl;obtain⟨_,a5,a1,a2⟩:=pw (ns:=c.ts.sS.length) a0 t I (fun i k a hi P a4=>uL J m k s _ a (zW1 (yw (n:=n) (zh hi))) (t.kid (zh hi)) T (a3 i k a hi P) a4);unfold zO at h;split at h
    .rename_i h2
     simp only[vw]at h;exact⟨_,h.symm,qgG (t.num h2)⟩
    split at h
    .grind [vw,Wt]
    split at h
    .grind [vw,Wt]
    have j:n.op=5\/(n.op=11\/n.op=12\/n.op=13)\/(n.op=6\/n.op=14\/n.op=7\/n.op=8\/n.op=32\/n.op=33\/n.op=9\/n.op=10):=zOm;rcases j with h5|h1|h2
    .obtain ⟨a,rfl,P⟩:=a5 h5
     simp only[if_pos h5,vw]at h
     grind
    .obtain ⟨a,rfl,P⟩:=a1 h1
     have n5:n.op≠5:=zOm;simp only[if_neg n5,if_pos h1]at h
     grind [vw,qgL,absurd]
    .obtain ⟨a,b,rfl,P,hb⟩:=a2 h2
     simp only at h;split at h
     .grind [vw,qgI,absurd]
     grind [vw,Yi,absurd,qgJ]
end
end P2
namespace EA
end EA
namespace F2
end F2
namespace F3
end F3
namespace F4
open E3 EO F1
section
variable {av:AV}{xs:List (List AV)}{mu:Mu}{sz:Nat}
theorem Own.one(h:Own mu sz av xs):av.one=true:=by
 rcases h with rfl|⟨b,rfl,_⟩<;>rfl
theorem Own.cells(h:Own mu sz av xs):av.cells=[av]:=by
 rcases h with rfl|⟨b,rfl,_⟩<;>rfl
theorem Own.push(h:Own mu sz av xs)(c:List Cell):Own (mu++c) sz av xs:=by
 rcases h with rfl|⟨b,rfl,g⟩
 .exact .inl rfl
 .exact .inr ⟨b,rfl,by grind⟩
theorem Own.set(h:Own mu sz av xs){i}(c)(g:qr av≠some i):Own (mu.set i c) sz av xs:=by
 rcases h with rfl|⟨b,rfl,j⟩
 .exact .inl rfl
 .exact .inr ⟨b,rfl,by rw[jV (fun e=>g (by rw[e];rfl))];exact j⟩
theorem Own.lt(h:Own mu sz av xs){b}(g:qr av=some b):b<mu.length:=by
 rcases h with rfl|⟨j,rfl,i⟩
 .cases g
 .cases g;exact(qi.1 i).1
theorem qD.ownB{P}{t g e bt:Nat}{s x ys zv K}(T:qA P t=some (e,sz,bt))(j:(qA P g).isSome=true)(U:qz P e=some zv)
  (o:zv.cells.length=sz) (p:zv.cells.all AV.one=true) (r:sz≠0) (hb:bt<=16384) (ho:Own mu sz s xs) (hx:qF mu x=some ys) (J:zb sz xs) (wy:zb sz ys) (R:xs.length+ys.length<=4294967296)
  (k:∀ av l,Own l sz av (xs++ys)->(∀ i,i<mu.length->qr s≠some i->l[i]?=mu[i]?)->(∀ b,qr av=some b->b=mu.length)->mu.length<=l.length->K av l):qD P mu #[t,g] s x K:=by
 refine .inl ?_;refine⟨t,g,e,sz,bt,ys,rfl,T,j,⟨zv,U,o,p⟩,r,hb,hx,wy,?_⟩;rcases ho with rfl|⟨b,rfl,hc⟩
 .refine .inl ⟨xs,rfl,J,R,fun h=>?_,fun h=>?_⟩
  .subst h
   exact k _ _ (.inl zSp) (fun _ _ _=>rfl) (fun b h=>by cases h) (qs _)
  .refine k _ _ (.inr ⟨mu.length,zSp,zSp⟩) (fun i C _=>?_) (fun b h=>by cases h;rfl) zSp
   rw[ze C]
 .have a0:=yc J.ok
  refine .inr ⟨b,xs.length,xs.flatten,rfl,hc,zOm,R,?_⟩;have a1:xs.flatten.take (xs.length*sz)=xs.flatten:=zn zOm;refine k _ _ (.inr ⟨mu.length,zSp,?_⟩) (fun i C I=>?_) (fun b h=>by cases h;rfl) zSp
  .grind
  .rw [ze (zUs C)]
   rw[jV (fun e=>I (by rw[e];rfl))]
abbrev rB(b:Bool):List AV:=[aB b]
def endL:XE (List Bool)->AEnd
 | .ok l => .ret (lB l)
 | .error e => .pan (errV e)
@[go_sem] theorem endL_ok(l):endL (.ok l) = .ret (lB l):=rfl
@[go_sem] theorem endL_err(e):endL (.error e) = .pan (errV e):=rfl
end
end F4
namespace F5
end F5
namespace F6
end F6
namespace F7
end F7
namespace F8
end F8
namespace E8
end E8
namespace EB
end EB
namespace EK
end EK
namespace F9
end F9
namespace FA
end FA
namespace FB
end FB
namespace FC
end FC
namespace E9
theorem px(sc)(g:GSc sc):qh qc 21 [eSc sc] (aI (sumI sc.sC)):=by
 refine qSU call21 func21 rfl ?_;refine qn.up sc.sC.length (fun k st=>st.tm 1 = .ip [lI sc.sC,aI sc.sN]/\st.tm 3=aI (sumI (sc.sC.take k))/\st.tm 4=aI k/\st.mu=[]) ?_ ?_
 .simp [go_sem,sumI]
 rintro k st I ⟨o,p,r,t⟩;have J:=g.1;simp[go_sem,o,r,t];refine cW (fun i=>?_) (fun j=>?_)
 .have i:k<sc.sC.length:=by simpa using i
  have C:=uE sc.sC k i;have l:=g.sum (k+1);rw[C]at l;simp[go_sem,o,p,r,i]
  grind [jb]
 .have j:k=sc.sC.length:=by simp at j;omega
  subst j;simp[go_sem,p];exact .zsc _
def jP:List Int->Int->Int->Int
 | [],_,_ => -1
 |a :: l,x,i=>if x<a then i else jP l (x-a) (i+1)
def jQ(sc:Sc)(x:Int):Int:=jP sc.sC x 0
theorem py(l:List Int)(k x i h):jP (l.drop k) x i=if x<l[k] then i else jP (l.drop (k+1)) (x-l[k]) (i+1):=by
 rw[zB h,jP]
def divN(n x:Int):Nat->Int
 | 0=>x
 |j+1=>divN n x j / n
theorem Vi{C:Type}{l:List C}{p}:l.all p=true↔∀(i)(h:i<l.length),p l[i]=true:=by
 rw[q8];refine⟨fun h i g=>h _ (qv g),fun h a j=>?_⟩;obtain⟨i,g,rfl⟩:=List.getElem_of_mem j;exact h i g
theorem Vj{C:Type}{l:List C}{p i}(h:i<l.length)(g:p l[i]=false):l.all p=false:=by
 rw[<-Bool.not_eq_true,Vi]
 grind
end E9
namespace Y13
open Y1 Y2 P1 Y6
def Yj(c:Ck)(s:Scp)(n:Nd):Res:=
 if (c.ts.sT.any fun p=>decide (p.name=n.name))=true then
  match q9 c n.name with
  |none => .error (45,n.pos)
  |some p=>match c.ts.sT[p]? with
   |none => .error (45,n.pos)
   |some g=>if g.params.length=n.sD.length then z6 c s n.pos g.params n.sD else .error (45,n.pos)
 else .error (40,n.pos)
def endC:Res->AEnd
 | .ok _ => .ret (.tup [])
 | .error e => .pan (J1 e.1 e.2)
@[go_sem] theorem endC_ok(k):endC (.ok k) = .ret (.tup []):=rfl
@[go_sem] theorem qpV(e):endC (.error e) = .pan (J1 e.1 e.2):=rfl
theorem qgN{lo sz mu av xs}(h:OwnF lo mu sz av xs)(w:yd sz xs)(hf:∀ r,r∈xs->∀ c,c∈r->HF c):Rd (cutM (fun i=>decide (lo<=i)) mu 0) av (.lst false xs):=by
 obtain⟨g,j,o⟩:=h;refine Own.rd (sz:=sz) ?_ w hf;rcases g with rfl|⟨b,rfl,l⟩
 .exact .inl rfl
 .refine .inr ⟨b,rfl,?_⟩
  rw[j6,l];simp[j b _ _ _ rfl]
end Y13
namespace Y14
open P1 P2
structure Wu (ns:Nat) (env:List (cL×Int)):Prop where
 len:env.length<=1000000
 r:∀ p,p∈env->0<=p.2/\p.2<ns
theorem pz{ns env}(h:Wu ns env):ScOk ns (yP env):=by
 have:∀(l:List (cL×Int))(s:Scp),(∀ p,p∈l->0<=p.2/\p.2<(ns:Int))->ScOk ns s->ScOk ns (l.foldl (fun s p=>(p.1,kOf [p.2]) :: s) s):=by
  intro l;induction l with
  |nil=>intro s _ i;exact i
  |cons a l t =>
   intro s j i;refine t _ (fun p C=>j p (qB _ C)) fun v g=>?_
   rcases ql.1 g with rfl|g
   .exact ⟨Ws zSp zSp (fun x o=>by rw[qL]at o;subst o;exact j a (qN ..)),rfl⟩
   .exact i v g
 exact this env [] h.r fun v g=>absurd g qG
end Y14
namespace Y15
section
variable {C:Type}
def repL(g:C->C->Bool)(l:List C):List Bool:=(qq l.length).map fun i=>match l[i]? with|some x=>(l.take i).any fun y=>g x y|none=>false
theorem uM(g)(l:List C):(repL g l).length=l.length:=by simp[repL]
theorem pA(g)(l:List C){i}(h):(repL g l)[i]?=some ((l.take i).any fun y=>g l[i] y):=by
 simp[repL,h]
end
end Y15
namespace Y16
open P1 Y1 Y9 Y15
abbrev cDg(d:Dg):List AV:=[aI d.1,aI d.2]
def dups(l:List Bool):List Dg:=(l.filter id).map fun _=>(41,0)
def repB{C:Type}(g:C->C->Bool)(l:List C)(i:Nat):List Bool:=((repL g l).take (i+1)).drop i
def rp(d:Dg):List Dg:=if d.1=0 then [] else [d]
def jR(ts:TS)(i:Nat):List Dg:=match ts.sT[i]? with
 |some p=>dups (repB (fun x y:Pd=>decide (x.name=y.name)) ts.sT i)++(dups (repL (fun x y:cL×Int=>decide (x.1=y.1)) p.params)++rp (vg (mkCk ts i) p.params p.body))
 |none=>[]
def uN(ts:TS)(g:List (cL×Nd))(i:Nat):List Dg:=match g[i]? with
 |some f=>dups (repB (fun x y:cL×Nd=>decide (x.1=y.1)) g i)++rp (ye ts [] f.2)
 |none=>[]
def y5(ts:TS):List Dg:=
 dups (repL (fun x y:cL×Bool=>decide (x.1=y.1)) ts.sS)++(dups (repL (fun x y:Fld=>decide (x.name=y.name)&&decide (x.sS=y.sS)) ts.sA) ++
  ((qq ts.sT.length).flatMap (jR ts)++(qq ts.sP.length).flatMap (uN ts ts.sP)))
abbrev lDg(l:List Dg):AV := .lst false (l.map cDg)
theorem uO(l):(dups l).length<=l.length:=by
 grind [dups,yi,List.length_filter_le]
theorem pB(d):(rp d).length<=1:=by unfold rp;split<;>simp
theorem Wv(f:Nat->List Dg)(hf:∀ i,(f i).length<=10):∀ k,((qq k).flatMap f).length<=10*k
 | 0=>zSp
 |k+1=>by
  rw[List.range_succ,List.flatMap_append,qW];have:=Wv f hf k;have:=hf k;simp only[List.flatMap_cons,List.flatMap_nil,List.append_nil];omega
theorem pC{C}(g)(l:List C)(i):(repB g l i).length<=1:=by
 grind [repB,List.length_drop,uZ]
theorem pD{ts}(h:okTS ts)(i):(jR ts i).length<=10:=by
 unfold jR;split
 .rename_i p g
  have j:=(h.pl p (zh g)).1
  grind [uO,repB,decide,pC,repL,uM,pB]
 .simp
theorem qgO(ts g i):(uN ts g i).length<=10:=by
 grind [uN,uO,repB,decide,pC,pB,ye]
end Y16
namespace YU
open Go.RowKit
end YU
namespace YV
end YV
namespace YW
open P2 Y2 Y3
theorem aR{ns k}(h:okKd ns k)(C:ns<=4):k.ts.length<=64:=by
 have o:∀ t,t∈k.ts->t∈([0,1,2,3]:List Int).flatMap fun a=>([0,1,2,3]:List Int).flatMap fun b=>([0,1,2,3]:List Int).map fun c=>[a,b,c]:=fun t I=>by
  obtain⟨l,rfl,j,i⟩:=h.ts t I;have J:=h.ar.2;have g:∀ x:Int,0<=x->x<ns->x∈([0,1,2,3]:List Int):=fun x p r=>zSo
  match l,j,i with
  | [],j,i=>simp[pad]
  | [a],j,i =>
   have:=g a (i a zSp).1 (i a zSp).2;simp only[ul,qp];exact⟨a,this,0,zSp,0,zSp,by simp[pad]⟩
  | [a,b],j,i =>
   have p:=g a (i a zSp).1 (i a zSp).2;have r:=g b (i b zSp).1 (i b zSp).2;simp only[ul,qp];exact⟨a,p,b,r,0,zSp,by simp[pad]⟩
  | [a,b,c],j,i =>
   have p:=g a (i a zSp).1 (i a zSp).2;have r:=g b (i b zSp).1 (i b zSp).2;have P:=g c (i c zSp).1 (i c zSp).2;simp only[ul,qp];exact⟨a,p,b,r,c,P,by simp[pad]⟩
  |_ :: _ :: _ :: _ :: _,j,i=>simp at j;omega
 have:=jI h.nd o;simpa using this
end YW
namespace YX
open P1 Y1
structure IV where
 arg:Option Nd
 size:Int
 name:cL
abbrev IEnv:=List (cL×IV)
structure ISt where
 last:Int
 sM:Int
def nd0:Nd := .mk 0 ⟨#[]⟩ 0 [] 0
abbrev eN0:AV := .agg [aI 0,aS ⟨#[]⟩,aI 0,.lst true [],aI 0]
def payS(n:Int)(s:ISt):ISt:=⟨s.last,s.sM+n⟩
def wo(env:IEnv)(n:Nd)(s:ISt):Except Dg ((Nd×Int)×ISt):=
 match getK n.name env with
 |none => .ok ((n,1),s)
 |some v=>match v.arg with
  |none => .ok ((.mk n.op v.name n.n n.sD n.pos,1),s)
  |some a=>if s.sM+v.size<=4000 then .ok ((a,v.size),payS v.size s) else .error (2,0)
end YX
namespace Q1
open P2 Y1 Y2 Y6
abbrev aU(x:Int):AV := .sc (.int .u8 x)
theorem kindU(op):qh qc 136 [aI op] (aU (kd op)):=by
 refine qSU call136 func136 rfl ?_;unfold kd;by_cases g:1<=op<;>by_cases i:op<=15<;>by_cases j:20<=op<;>by_cases l:op<=23<;>by_cases o:30<=op<;>by_cases p:op<=51<;>first|omega | (simp[go_sem,g,i,j,l,o,p];exact .zsc _)
def kwL:List cL:=[⟨#[115,111,114,116]⟩,⟨#[111,114,100,101,114,101,100]⟩,⟨#[118,97,114]⟩,⟨#[102,105,101,108,100]⟩,⟨#[112,114,101,100]⟩,⟨#[102,97,99,116]⟩,⟨#[97,108,108]⟩,⟨#[115,111,109,101]⟩,⟨#[110,111]⟩,⟨#[111,110,101]⟩,⟨#[108,111,110,101]⟩,⟨#[97,108,119,97,121,115]⟩,⟨#[101,118,101,110,116,117,97,108,108,121]⟩,⟨#[97,102,116,101,114]⟩,⟨#[117,110,116,105,108]⟩,⟨#[110,111,110,101]⟩,⟨#[117,110,105,118]⟩,⟨#[105,100,101,110]⟩,⟨#[105,110]⟩,⟨#[110,111,116]⟩,⟨#[116,114,117,101]⟩,⟨#[102,97,108,115,101]⟩]
def kwB(s:cL):Bool:=kwL.any fun x=>decide (x=s)
theorem qgP(s):qh qc 160 [aS s] (aB (kwB s)):=by
 refine qSU call160 func160 rfl ?_;have g:kwL.length=22:=rfl;refine aC 22 (fun k st=>st.tm 0=aS s/\st.tm 3 = .lst true (kwL.map fun s=>[aS s])/\st.tm 4=aI k/\st.mu=[]/\∀ j x,j<k->kwL[j]?=some x->x≠s) ?_ ?_
 .refine ⟨zSi,?_,zSi,zSi,fun j x r=>absurd r zOm⟩
  simp[go_sem,kwL]
 .rintro k st hk ⟨I,C,J,P,hI⟩
  unfold kwB;generalize hK:kwL=K at *
  by_cases R:k=22
  .subst R
   have T:(K.any fun x=>decide (x=s))=false:=by
    rw[List.any_eq_false];intro x p;obtain⟨j,r⟩:=List.mem_iff_getElem?.1 p;simpa using hI j x (by have:=(qi.1 r).1;omega) r
   rw[T];simp[go_sem,C,J,P,g];exact .zsc _
  .have t:k<K.length:=by omega
   have i:k<22:=zOm;have l:(k:Int)<22:=zOm;have w1:=zWk k;by_cases p:K[k]=s
   .have U:(K.any fun x=>decide (x=s))=true:=List.any_eq_true.2 ⟨K[k],qv t,zUs p⟩
    rw[U];simp[go_sem,I,C,J,P,g,i,l,p];exact .zsc _
   .simp [go_sem,I,C,J,P,g,i,l,jN p,w1]
    try refine⟨i,aP ?_⟩
    try refine aP ?_
    refine⟨zS1 I,zS1 C,zSi,zSi,fun j x r o=>?_⟩;by_cases a0:j=k
    .subst a0
     rw[qx t]at o;cases o;exact p
    .exact hI j x zOm o
def bys(l:List Int):cL:=⟨(l.map fun x=>UInt8.ofNat x.toNat).toArray⟩
theorem qgQ(l x):bys (l++[x])=bys l++⟨#[UInt8.ofNat x.toNat]⟩:=by
 apply ByteArray.ext;simp[bys]
theorem pE(l):(bys l).size=l.length:=by simp[bys,ByteArray.size]
def shpV(op:Int)(nk:Nat):AV:=match shp op nk with
 |some l => .tup [aS (bys l),aB true]
 |none => .tup [aS ⟨#[]⟩,aB false]
theorem Vk(mu a b):Rd mu (.tup [aS a,aB b]) (.tup [aS a,aB b]) := .hf _ (HF.tup fun c g=>by simp at g;rcases g with rfl|rfl<;>exact HF.sc _)
theorem qgR(nk:Nat)(J:nk<=100000):qh qc 135 [aI 47,aI nk] (shpV 47 nk):=by
 refine qSU call135 func135 rfl ?_;refine aC (min nk 401) (fun k st=>st.tm 1=aI nk/\st.tm 6=aS (bys (zo k 101))/\st.tm 7=aI k) ?_ ?_
 .exact ⟨zSi,by simp[go_sem,bys],zSi⟩
 .rintro k st hk ⟨i,j,l⟩
  by_cases o:k=min nk 401
  .have P:shpV 47 nk = .tup [aS (bys (zo k 101)),aB true]:=by
    rw[o];rfl
   rw[P];by_cases h1:nk<=k
   .have p:¬k<nk:=by omega
    simp[go_sem,i,j,l,p];exact Vk _ _ _
   .have R:k=401:=by omega
    subst R;have h3:401<nk:=zOm;have T:(401:Int)<nk:=zOm;simp[go_sem,i,j,l,T];exact Vk _ _ _
  .have r:k<nk:=by omega
   have I:k<401:=zOm;have g:(k:Int)<401:=zOm;have U:=zWk k;have t:(bys (zo k 101)).size+1<=9223372036854775807:=by rw[pE,List.length_replicate];omega
   have C:bys (zo k 101)++⟨#[101]⟩=bys (zo (k+1) 101):=by
    rw[List.replicate_succ',qgQ];rfl
   generalize bys (zo k 101)=B at *
   simp[go_sem,i,j,l,r,g,t,U];refine⟨zOm,aP ?_⟩;exact⟨zS1 i,zS1 C,zSi⟩
theorem qgS(op)(nk:Nat)(g:nk<=100000):qh qc 135 [aI op,aI nk] (shpV op nk):=by
 by_cases h47:op=47
 .subst h47;exact qgR nk g
 by_cases o:1<=op/\op<=51
 .have j:op=1\/op=2\/op=3\/op=4\/op=5\/op=6\/op=7\/op=8\/op=9\/op=10\/op=11\/op=12\/op=13\/op=14\/op=15\/op=16\/op=17\/op=18\/op=19\/op=20\/op=21\/op=22\/op=23\/op=24\/op=25\/op=26\/op=27\/op=28\/op=29\/op=30\/op=31\/op=32\/op=33\/op=34\/op=35\/op=36\/op=37\/op=38\/op=39\/op=40\/op=41\/op=42\/op=43\/op=44\/op=45\/op=46\/op=48\/op=49\/op=50\/op=51:=by omega
  rcases j with rfl|rfl|rfl|rfl|rfl|rfl|rfl|rfl|rfl|rfl|rfl|rfl|rfl|rfl|rfl|rfl|rfl|rfl|rfl|rfl|rfl|rfl|rfl|rfl|rfl|rfl|rfl|rfl|rfl|rfl|rfl|rfl|rfl|rfl|rfl|rfl|rfl|rfl|rfl|rfl|rfl|rfl|rfl|rfl|rfl|rfl|rfl|rfl|rfl|rfl
  all_goals
   refine qSV call135 func135 rfl ?_;simp[go_sem,shpV,shp];exact Vk _ _ _
 .have i:∀ c:Int,1<=c->c<=51->(op=c)=False:=fun c p r=>eq_false zOm
  have l:shp op nk=none:=by
   unfold shp
   repeat rw[zIn]
  rw[shpV,l];refine qSV call135 func135 rfl ?_;simp[go_sem,i];exact Vk _ _ _
end Q1
namespace Q2
open P2 Y1 Q1
def fitB(op:Int)(ks:List Nd):Bool:=decide (shp op ks.length=some (ks.map fun k=>kd k.op))
theorem qgT(l)(g:∀ x,x∈l->0<=x/\x<256)(i h)(j:i<(bys l).data.size):(((bys l).data[i]).toNat:Int)=l[i]:=by
 have o:=g l[i] (qv h);simp only[bys,List.getElem_toArray,List.getElem_map,UInt8.toNat_ofNat'];omega
theorem qgU{op nk l}(h:shp op nk=some l):∀ x,x∈l->0<=x/\x<256:=by
 unfold shp at h
 repeat' split at h
 all_goals first
  | (cases h;done)
  | (cases h;intro x g;cases g;done)
  | (cases h;intro x g;rw[List.mem_replicate]at g;omega)
  | (cases h;intro x g;simp at g;omega)
theorem fitsU(op ks)(hk:ks.length<=1000):qh qc 105 [aI op,lNd ks] (aB (fitB op ks)):=by
 have C:=qgS op ks.length zOm;unfold shpV at C;cases o:shp op ks.length with
 |none =>
  simp only[o]at C;have hf:fitB op ks=false:=by simp[fitB,o]
  rw[hf];refine qSU call105 func105 rfl ?_;refine fY C (.zs (.zs .nil)) ?_;exact .zsc _
 |some l =>
  simp only[o]at C;have i:=pE l;have I:=qgT l (qgU o);generalize bys l=B at *
  refine qSU call105 func105 rfl ?_;refine cY C (.zs (.zs .nil)) ?_;by_cases t:l.length=ks.length
  .simp [go_sem,i,t]
   refine aC ks.length (fun k st=>st.tm 1=lNd ks/\st.tm 5=aS B/\st.tm 7=aI k/\∀ j,j<k->(ks[j]?).map (fun k=>kd k.op)=l[j]?) ?_ ?_
   .exact ⟨zSi,zSi,zSi,fun j P=>absurd P zOm⟩
   .rintro k st hk ⟨R,U,J,hI⟩
    by_cases a0:k=ks.length
    .subst a0
     have hf:fitB op ks=true:=by
      rw[fitB,o,decide_eq_true];congr 1;apply zZ;intro j;by_cases P:j<ks.length
      .rw [zj,hI j P]
      .rw [jG zOm,jG zSo]
     rw[hf];simp[go_sem,R,J];exact .zsc _
    .have g:k<ks.length:=by omega
     have w1:=zWk k;simp[go_sem,R,J,g];refine cN zKr ?_;simp[go_sem,R,J,g];refine cY (kindU ks[k].op) (.zs .nil) ?_;have p:k<l.length:=zOm;have a1:k<B.data.size:=by have:B.data.size=l.length:=i;omega
     have hg:=I k p a1;by_cases T:kd ks[k].op=l[k]
     .have r:kd ks[k].op=((B.data[k]).toNat:Int):=by rw[hg];exact T
      simp[go_sem,U,J,g,i,t,r,w1];refine aP ?_;refine⟨zS1 R,zS1 U,zSi,fun j P=>?_⟩;by_cases a2:j=k
      .subst a2
       rw[qx g,qx p,qZ,T]
      .exact hI j zOm
     .have r:¬kd ks[k].op=((B.data[k]).toNat:Int):=by rw[hg];exact T
      have hf:fitB op ks=false:=by
       rw[fitB,o,decide_eq_false];intro e;injection e with e;apply T;have:l[k]?=some (kd ks[k].op):=by rw[e,zj,qx g,qZ]
       rw[qx p]at this;simpa using this.symm
      rw[hf];simp[go_sem,U,J,g,i,t,r];exact .zsc _
  .have hf:fitB op ks=false:=by
    rw[fitB,o,decide_eq_false];intro e;injection e with e;rw[e]at t;simp at t
   rw[hf];simp[go_sem,i,t];exact .zsc _
end Q2
namespace Q3
open Y1 Q1
def letC(c:Int):Bool:=(decide (97<=c)&&decide (c<=122))||(decide (65<=c)&&decide (c<=90))
def chB(i:Nat)(c:Int):Bool:=letC c||(!decide (i=0)&&(decide (c=95)||(decide (48<=c)&&decide (c<=57))))
def yn(s:cL):Bool:=decide (1<=s.size)&&decide (s.size<=16)&&!kwB s&&(qq s.size).all fun i=>match s.data[i]? with|some c=>chB i c.toNat|none=>true
theorem qgV(s):qh qc 134 [aS s] (aB (yn s)):=by
 refine qSV call134 func134 rfl ?_;by_cases h0:s.size=0
 .have r:yn s=false:=by simp[yn,h0]
  rw[r];simp[go_sem,h0];exact .zsc _
 by_cases aa:16<s.size
 .have r:yn s=false:=by
   have:¬s.size<=16:=zOm;simp[yn,this]
  rw[r];have l:(16:Int)<s.size:=zOm;simp[go_sem,h0,l];exact .zsc _
 have l:¬(16:Int)<s.size:=zOm;simp[go_sem,h0,l];refine cY (qgP s) (.zs .nil) ?_;cases hk:kwB s with
 |true =>
  have r:yn s=false:=by simp[yn,hk]
  rw[r];simp[go_sem];exact .zsc _
 |false =>
  simp[go_sem];refine aC s.size (fun k st=>st.tm 0=aS s/\st.tm 3=aI k/\∀ j c,j<k->s.data[j]?=some c->chB j c.toNat=true) ?_ ?_
  .exact ⟨zSi,zSi,fun j c hj=>absurd hj zOm⟩
  .rintro k st ab ⟨e0,e2,hI⟩
   by_cases a0:k=s.size
   .have r:yn s=true:=by
     simp only[yn,hk,Bool.not_false,Bool.and_true,qu,decide_eq_true_eq,q8,zG];refine⟨⟨zOm,zOm⟩,fun i hi=>?_⟩;cases hc:s.data[i]? with
     |none=>rfl
     |some c=>exact hI i c zOm hc
    rw[r];simp[go_sem,e0,e2,a0];exact .zsc _
   .have o:k<s.size:=by omega
    have T:k<s.data.size:=o;have w1:=zWk k;have z1:qw.wrap 1=1:=rfl;have U:s.data[k]?=some s.data[k]:=Array.getElem?_eq_getElem T;simp[go_sem,e0,e2,o];generalize hc:((s.data[k]).toNat:Int)=c at *
    cases g:chB k c with
    |false =>
     have r:yn s=false:=by
      rw[yn,Bool.and_eq_false_iff];refine .inr (List.all_eq_false.2 ⟨k,zG.2 o,?_⟩);simp only[U,hc,g];simp
     rw[r];by_cases C:97<=c<;>by_cases I:c<=122<;>by_cases J:65<=c<;>by_cases P:c<=90<;>by_cases R:c=95<;>by_cases a6:c<48<;>by_cases a7:57<c<;>by_cases t:k=0<;>first|omega | (exfalso;simp[chB,letC,C,I,J,P,R,a6,a7,t]at g;done) | (exfalso;simp[chB,letC,C,I,J,P,R,a6,a7,t]at g;omega)|skip
     all_goals
      simp[go_sem,e2,C,I,J,P,R,a6,a7,t];exact .zsc _
    |true =>
     have p:∀ j d,j<k+1->s.data[j]?=some d->chB j d.toNat=true:=fun j d hj hd=>by
      by_cases a9:j=k
      .subst a9
       rw[U]at hd;cases hd;rw[hc];exact g
      .exact hI j d zOm hd
     by_cases C:97<=c<;>by_cases I:c<=122<;>by_cases J:65<=c<;>by_cases P:c<=90<;>by_cases R:c=95<;>by_cases a6:c<48<;>by_cases a7:57<c<;>by_cases t:k=0<;>first|omega | (exfalso;simp[chB,letC,C,I,J,P,R,t]at g;done) | (exfalso;simp[chB,letC,C,I,J,P,R,t]at g;omega)|skip
     all_goals
      simp[go_sem,e2,C,I,J,P,R,a6,a7,t,w1,z1]
      first
       |exact⟨o,aP ⟨zS1 e0,zSi,p⟩⟩
       | (subst t;exact⟨o,aP ⟨zS1 e0,zSi,fun j d hj hd=>p j d zOm hd⟩⟩)
end Q3
namespace Q4
open P2 Y1 Y2 Y9 Q2 Q3
def v8(op:Int):Bool:=decide (op=1)||decide (op=15)||decide (op=45)||decide (op=46)||decide (op=47)
def numB(op n:Int):Bool:=if op=2 then decide (1<=n)&&decide (n<=3) else if op=20 then decide (-64<=n)&&decide (n<=64) else decide (n=0)
def ownB(n:Nd):Bool:=if v8 n.op=yn n.name/\(v8 n.op=true\/n.name=⟨#[]⟩) then numB n.op n.n else false
theorem ownU(n):qh qc 104 [eNd n] (aB (ownB n)):=by
 refine qSV call104 func104 rfl ?_;have j:=qgV n.name;generalize J:yn n.name=N at *
 by_cases p:n.op=1\/n.op=15\/n.op=45\/n.op=46\/n.op=47
 .have l:v8 n.op=true:=by grind [v8]
  have r:¬n.op=2:=zOm;have i:¬n.op=20:=zOm;rcases p with h|h|h|h|h
  all_goals
   simp[go_sem,h];refine cY j (.zs .nil) ?_;cases N with
   |true =>
    have g:ownB n=decide (n.n=0):=by grind [ownB,numB]
    rw[g];simp[go_sem,h];exact .zsc _
   |false =>
    have g:ownB n=false:=by grind [ownB]
    rw[g];simp[go_sem];exact .zsc _
 .simp only[not_or]at p
  obtain⟨d1,d2,d3,d4,d5⟩:=p;have l:v8 n.op=false:=by grind [v8]
  simp[go_sem,d1,d2,d3,d4,d5];refine cY j (.zs .nil) ?_;cases N with
  |true =>
   have g:ownB n=false:=by grind [ownB]
   rw[g];simp[go_sem];exact .zsc _
  |false =>
   by_cases o:n.name=⟨#[]⟩
   .have g:ownB n=numB n.op n.n:=by
     simp_all[ownB,if_pos]
    rw[g];unfold numB;by_cases r:n.op=2
    .by_cases t:1<=n.n<;>by_cases C:n.n<=3<;>(simp[go_sem,r,o,t,C];exact .zsc _)
    .by_cases i:n.op=20
     .by_cases t : -64<=n.n<;>by_cases C:n.n<=64<;>(simp[go_sem,i,o,t,C];exact .zsc _)
     .simp [go_sem,r,i,o]
      exact .zsc _
   .have g:ownB n=false:=by simp[ownB,l,o]
    rw[g];have I:n.name.toList.isEmpty=false:=by simpa using jN o
    simp[go_sem,I];exact .zsc _
mutual
def cntN:Nd->Int->Int
 | .mk _ _ _ ks _,left=>yg ks left 1
def yg:List Nd->Int->Int->Int
 | [],_,sum=>sum
 |k :: ks,left,sum=>if sum<=left then yg ks left (sum+cntN k (left-sum)) else sum
end
theorem pF(n left):cntN n left=yg n.sD left 1:=by
 obtain⟨op,g,i,ks,p⟩:=n;simp[cntN,Nd.sD]
mutual
theorem Ww:∀(n:Nd)(left:Int),1<=cntN n left/\(cntN n left<=left+1\/cntN n left=1)
 | .mk _ _ _ ks _,left=>by
  simp only[cntN];have:=Wx ks left 1;omega
theorem Wx:∀(ks:List Nd)(left sum:Int),sum<=yg ks left sum/\(yg ks left sum<=left+1\/yg ks left sum=sum)
 | [],left,sum=>by simp[yg]
 |k :: ks,left,sum=>by
  simp only[yg];split
  .have g:=Ww k (left-sum)
   have i:=Wx ks left (sum+cntN k (left-sum));omega
  .omega
end
theorem pG:∀ m n,szN n<=m->∀ left,-1000000<=left/\left<=1000000->qh qc 75 [eNd n,aI left] (aI (cntN n left))
 | 0,n,J,_,_=>by obtain⟨op,nm,i,ks,p⟩:=n;simp[szN]at J
 |m+1,n,J,left,hl=>by
  have T:∀ k,k∈n.sD->∀ left:Int,-1000000<=left/\left<=1000000->qh qc 75 [eNd k,aI left] (aI (cntN k left)):=fun k P =>
   pG m k (zW1 (yw P))
  rw[pF];generalize hR:yg n.sD left 1=R;refine qSU call75 func75 rfl ?_;refine aC n.sD.length (fun k st=>∃ sum:Int,st.tm 1=aI left/\st.tm 2 = .ip (cNd n)/\st.tm 5=aI sum/\st.tm 6=aI k/\(k:Int)+1<=sum/\(sum<=left+1\/sum=1)/\yg (n.sD.drop k) left sum=R) ?_ ?_
  .simp [go_sem, *]
  .rintro k st P ⟨sum,t,l,C,o,U,a0,j⟩
   by_cases I:k=n.sD.length
   .subst I
    rw[yr]at j;simp only[yg]at j;subst j;simp[go_sem,l,C,o];exact .zsc _
   .have g:k<n.sD.length:=by omega
    rw[zB g]at j;simp only[yg]at j;by_cases r:sum<=left
    .rw [if_pos r]at j
     have w1:=zWk k;have w2:qw.wrap (left-sum)=left-sum:=zWr;have a1:=Ww n.sD[k] (left-sum);have w3:qw.wrap (sum+cntN n.sD[k] (left-sum))=sum+cntN n.sD[k] (left-sum):=zWr;simp[go_sem,t,l,C,o,g,r,w2];refine cY (T n.sD[k] (qv g) (left-sum) ⟨zOm,zOm⟩) (.zk (zd _) (.zs .nil)) ?_;simp[go_sem,o,w1,w3];refine⟨g,aP ?_⟩;exact⟨sum+cntN n.sD[k] (left-sum),zS1 t,zS1 l,zSi,zSi,zOm,zOm,j⟩
    .rw [if_neg r]at j
     subst j;simp[go_sem,t,l,C,o,g,r];exact .zsc _
mutual
def forN:Nd->Int->Bool
 | .mk op j i ks p,g=>if g<1 then false else ownB (.mk op j i ks p)&&(fitB op ks&&vG ks (g-1))
def vG:List Nd->Int->Bool
 | [],_=>true
 |k :: ks,g=>forN k g&&vG ks g
end
theorem Vl(n g):forN n g=if g<1 then false else ownB n&&(fitB n.op n.sD&&vG n.sD (g-1)):=by
 obtain⟨op,j,i,ks,p⟩:=n;simp[forN,Nd.sD,Nd.op]
theorem pH:∀ m n,szN n<=m->yf n->∀ g,-1000000<=g/\g<=1000000->qh qc 76 [eNd n,aI g] (aB (forN n g))
 | 0,n,P,_,_,_=>by obtain⟨op,nm,i,ks,p⟩:=n;simp[szN]at P
 |m+1,n,P,T,g,hl=>by
  have ih:∀ k,k∈n.sD->∀ g:Int,-1000000<=g/\g<=1000000->qh qc 76 [eNd k,aI g] (aB (forN k g)):=fun k I =>
   pH m k (zW1 (yw I)) (T.kid I)
  have C:=T.len;rw[Vl];have l:=ownU n;have o:=fitsU n.op n.sD C;by_cases j:g<1
  .rw [if_pos j]
   refine qSV call76 func76 rfl ?_;simp[go_sem,j];exact .zsc _
  rw[if_neg j];cases U:ownB n with
  |false =>
   rw[U]at l;refine qSV call76 func76 rfl ?_;simp[go_sem,j];refine fY l (.zk (zd _) .nil) ?_;exact .zsc _
  |true =>
   rw[U]at l;cases hf:fitB n.op n.sD with
   |false =>
    rw[hf]at o;refine qSV call76 func76 rfl ?_;simp[go_sem,j];refine fY l (.zk (zd _) .nil) ?_;refine fY o (.zs (.zk (kG _) .nil)) ?_;exact .zsc _
   |true =>
    rw[hf]at o;have wl:qw.wrap (g-1)=g-1:=zWr;generalize hR:vG n.sD (g-1)=R;simp only[Bool.true_and];refine qSV call76 func76 rfl ?_;simp[go_sem,j];refine fY l (.zk (zd _) .nil) ?_;refine fY o (.zs (.zk (kG _) .nil)) ?_;refine aC n.sD.length (fun k st=>st.tm 1=aI g/\st.tm 2 = .ip (cNd n)/\st.tm 5=aI k/\vG (n.sD.drop k) (g-1)=R) ?_ ?_
    .simp [go_sem, *]
    .rintro k st I ⟨e1,e2,e5,r⟩
     by_cases J:k=n.sD.length
     .subst J
      rw[yr]at r;simp only[vG]at r;subst r;simp[go_sem,e2,e5];exact .zsc _
     .have t:k<n.sD.length:=by omega
      have w1:=zWk k;rw[zB t]at r;simp only[vG]at r;have hi:=ih n.sD[k] (qv t) (g-1) ⟨zOm,zOm⟩;simp[go_sem,e1,e2,e5,t,wl];refine cY hi (.zk (zd _) (.zs .nil)) ?_;cases hq:forN n.sD[k] (g-1) with
      |true =>
       simp_all[go_sem,Bool.true_and,aP]
      |false =>
       rw[hq,Bool.false_and]at r;subst r;simp[go_sem];exact .zsc _
theorem pI:∀ ks left sum,0<=sum->yg ks left sum<=left->sum+ks.length<=yg ks left sum/\∀ k,k∈ks->∃ l',l'<=left/\cntN k l'<=l'
 | [],left,sum,_,h=>by simp[yg]
 |k :: ks,left,sum,l,h=>by
  simp only[yg]at h⊢;split at h
  .rename_i i
   rw[if_pos i];have o:=Ww k (left-sum);have j:=pI ks left (sum+cntN k (left-sum)) zOm h;have p:=j.1;refine⟨by grind,fun q g=>?_⟩;rcases ql.1 g with rfl|g
   .grind
   grind
  .omega
theorem pJ:∀ m n left,szN n<=m->left<=1000->cntN n left<=left->yf n
 | 0,n,_,g,_,_=>by obtain⟨op,nm,i,ks,p⟩:=n;simp[szN]at g
 |m+1,n,left,g,C,h=>by
  rw[pF]at h;obtain⟨I,l⟩:=pI n.sD left 1 zOm h;refine .mk n zOm fun k j=>?_
  obtain⟨o,r,t⟩:=l k j;exact pJ m k o (zW1 (yw j)) zOm t
def qY(n:Nd):Bool:=decide (cntN n 400<=400)&&forN n 24
theorem Wy(n):qh qc 36 [eNd n] (aB (qY n)):=by
 have i:=pG (szN n) n (qs _) 400 zOm;by_cases h:cntN n 400<=400
 .have j:=pJ (szN n) n 400 (qs _) zOm h
  have hf:=pH (szN n) n (qs _) j 24 zOm;have g:qY n=forN n 24:=by simp[qY,h]
  rw[g];refine qSU call36 func36 rfl ?_;refine cY i (.zk (zd _) (.zs .nil)) ?_;simp[go_sem,h];refine fY hf (.zk (zd _) (.zs .nil)) ?_;exact .zsc _
 .have g:qY n=false:=by simp[qY,h]
  rw[g];refine qSU call36 func36 rfl ?_;refine cY i (.zk (zd _) (.zs .nil)) ?_;simp[go_sem,h];exact .zsc _
theorem pK{ks i}(h:vG ks i=true):∀ k,k∈ks->forN k i=true:=by
 induction ks with
 |nil=>grind
 |cons a l j =>
  simp only[vG,qu]at h;intro k g;rcases ql.1 g with rfl|g
  .exact h.1
  .exact j h.2 k g
theorem pL:∀ m n g,szN n<=m->forN n g=true->WfN n
 | 0,n,_,j,_=>by obtain⟨op,nm,i,ks,p⟩:=n;simp[szN]at j
 |m+1,n,g,j,h=>by
  rw[Vl]at h;split at h
  .grind
  .simp only[qu]at h
   obtain⟨r,t,o⟩:=h;refine .mk n ?_ (fun C=>?_) fun k l=>pL m k (g-1) (zW1 (yw l)) (pK o k l)
   .grind [fitB]
   simp_all[ownB,numB,if_pos,absurd]
theorem v9{n}(h:qY n=true):WfN n:=by
 simp only[qY,qu]at h;exact pL (szN n) n 24 (qs _) h.2
end Q4
namespace Q5
theorem qgW(a b)(ha:a.length<=1000000):qh qc 106 [lI a,lI b] (aB (decide (a=b))):=by
 refine qSV call106 func106 rfl ?_;by_cases j:a.length=b.length
 case neg =>
  rw[decide_eq_false (by rintro rfl;exact j rfl)];simp[go_sem,j];exact .zsc _
 simp[go_sem,j];refine aC a.length (fun k st=>st.tm 0=lI a/\st.tm 1=lI b/\st.tm 5=aI k/\∀(i:Nat)(h:i<a.length)(o:i<b.length),i<k->a[i]=b[i]) ?_ ?_
 .exact ⟨zSi,zSi,zSi,fun i h o P=>absurd P zOm⟩
 .rintro k st hk ⟨l,C,p,R⟩
  by_cases T:k=a.length
  .rw [decide_eq_true (List.ext_getElem j fun i h o=>R i h o zOm)]
   have I:k=b.length:=zOm;simp[go_sem,l,p,I,j];exact .zsc _
  .have U:k<a.length:=by omega
   have r:k<b.length:=zOm;have w1:=zWk k;have g:(k:Int)<(b.length:Int):=zOm;by_cases t:a[k]=b[k]
   .simp [go_sem,l,p,j,g]
    try refine cN zKr ?_
    simp[go_sem,l,C,p,r,j,g,t,w1]
    try refine⟨zOm,aP ?_⟩
    try refine aP ?_
    refine⟨zS1 l,zS1 C,zSi,fun i h o P=>?_⟩;by_cases J:i=k
    .subst J;exact t
    .exact R i h o zOm
   .rw [decide_eq_false (fun e=>t (zP1 e))]
    simp[go_sem,l,p,j,g]
    try refine cN zKr ?_
    simp[go_sem,l,C,p,r,j,g,t];exact .zsc _
end Q5
namespace Q6
open Y1 Y9
mutual
def anyN(p:Nd->Bool):Nd->Bool
 | .mk op g i ks q=>p (.mk op g i ks q)||vh p ks
def vh(p:Nd->Bool):List Nd->Bool
 | []=>false
 |k :: ks=>anyN p k||vh p ks
end
theorem Vm(p n):anyN p n=(p n||vh p n.sD):=by
 obtain⟨op,g,i,ks,q⟩:=n;simp[anyN,Nd.sD]
theorem pM:∀ m n,szN n<=m->yf n->qh qc 112 [eNd n] (aB (anyN (fun n=>decide (n.op=47)) n))
 | 0,n,I,_=>by obtain⟨op,nm,i,ks,p⟩:=n;simp[szN]at I
 |m+1,n,I,J=>by
  have U:∀ k,k∈n.sD->qh qc 112 [eNd k] (aB (anyN (fun n=>decide (n.op=47)) k)):=fun k r =>
   pM m k (zW1 (yw r)) (J.kid r)
  have P:=J.len;rw[Vm];generalize hR:vh (fun n=>decide (n.op=47)) n.sD=R;refine qSV call112 func112 rfl ?_;by_cases t:n.op=47
  .simp [go_sem,t]
   exact .zsc _
  .rw [decide_eq_false t,Bool.false_or]
   simp[go_sem,t];refine aC n.sD.length (fun k st=>st.tm 1 = .ip (cNd n)/\st.tm 3=aI k/\vh (fun n=>decide (n.op=47)) (n.sD.drop k)=R) ?_ ?_
   .exact ⟨zSi,zSi,zUs hR⟩
   .rintro k st r ⟨l,o,j⟩
    by_cases C:k=n.sD.length
    .subst C
     rw[yr]at j;simp only[vh]at j;subst j;simp[go_sem,l,o];exact .zsc _
    .have g:k<n.sD.length:=by omega
     have w1:=zWk k;rw[zB g]at j;simp only[vh]at j;have hi:=U n.sD[k] (qv g);simp[go_sem,l,o,g,qO]
     try refine cN zKr ?_
     try simp[go_sem,l,o,g,qO]
     refine cY hi (.zk (zd _) .nil) ?_;cases T:anyN (fun n=>decide (n.op=47)) n.sD[k] with
     |true =>
      rw[T,Bool.true_or]at j;subst j;simp[go_sem,l,o];exact .zsc _
     |false =>
      rw[T,Bool.false_or]at j;simp[go_sem,l,o,w1]
      try refine⟨g,aP ?_⟩
      try refine aP ?_
      exact⟨zS1 l,zSi,j⟩
end Q6
namespace Q7
open YF P1
def parB(ns:Nat)(l:List (cL×Int)):Bool:=decide (l.length<=8)&&l.all fun p=>decide (0<=p.2)&&decide (p.2<ns)
theorem qgX(ts l):qh qc 73 [eTS ts,lPm l] (aB (parB ts.sS.length l)):=by
 refine qSV call73 func73 rfl ?_;by_cases U:l.length<=8
 case neg =>
  have i:parB ts.sS.length l=false:=by simp[parB,U]
  have r:(8:Int)<l.length:=zOm;rw[i];simp[go_sem,r];exact .zsc _
 have r:¬(8:Int)<l.length:=zOm;simp[go_sem,r];refine aC l.length (fun k st=>st.tm 1=lPm l/\st.tm 2 = .ip (cTS ts)/\st.tm 5=aI k/\∀ j p,j<k->l[j]?=some p->0<=p.2/\p.2<ts.sS.length) ?_ ?_
 .exact ⟨zSi,zSi,zSi,fun j p C=>absurd C zOm⟩
 .rintro k st hk ⟨o,J,t,hI⟩
  by_cases P:k=l.length
  .have i:parB ts.sS.length l=true:=by
    simp only[parB,qu,decide_eq_true_eq,q8];refine⟨U,fun p i=>?_⟩;obtain⟨j,C⟩:=List.mem_iff_getElem?.1 i;exact hI j p (by have:=(qi.1 C).1;omega) C
   rw[i];simp[go_sem,o,t,P];exact .zsc _
  .have g:k<l.length:=by omega
   have w1:=zWk k;have hg:l[k]?=some l[k]:=qx g;by_cases hq:0<=l[k].2/\l[k].2<ts.sS.length
   .have I:¬l[k].2<0:=by omega
    have R:¬(ts.sS.length:Int)<=l[k].2:=zOm;simp[go_sem,o,t,g];refine cN zKr ?_;simp[go_sem,o,J,t,g,I,R,w1]
    try refine⟨g,aP ?_⟩
    try refine aP ?_
    refine⟨zS1 o,zS1 J,zSi,fun j p C i=>?_⟩;by_cases T:j=k
    .subst T;rw[hg]at i;cases i;exact hq
    .exact hI j p zOm i
   .have i:parB ts.sS.length l=false:=by
     rw[parB,Bool.and_eq_false_iff];refine .inr (List.all_eq_false.2 ⟨l[k],qv g,?_⟩);simp only[qu,decide_eq_true_eq];exact hq
    rw[i];by_cases I:l[k].2<0
    .simp [go_sem,o,t,g]
     refine cN zKr ?_;simp[go_sem,o,t,g,I];exact .zsc _
    .have R:(ts.sS.length:Int)<=l[k].2:=by omega
     simp[go_sem,o,t,g];refine cN zKr ?_;simp[go_sem,o,J,t,g,I,R];exact .zsc _
theorem qgY{ns l}(h:parB ns l=true):l.length<=8/\∀ p,p∈l->0<=p.2/\p.2<ns:=by
 simp only[parB,qu,decide_eq_true_eq,q8]at h;exact⟨h.1,fun p g=>h.2 p g⟩
end Q7
namespace Q8
open YF P1 P2 Y1 Y9 Q4 Q7
def limB(ts:TS):Bool:=decide (ts.sS.length<=4)&&decide (ts.sA.length<=6)&&decide (ts.sT.length<=8)&&decide (ts.sP.length<=16)
def fldB(ns:Nat)(f:Fld):Bool:=decide (1<=f.sS.length)&&decide (f.sS.length<=3)&&f.sS.all fun x=>decide (0<=x)&&decide (x<ns)
def z8(ts:TS):Bool:=limB ts&&(ts.sA.all (fldB ts.sS.length)&&(ts.sT.all (fun p=>parB ts.sS.length p.params&&qY p.body)&&ts.sP.all fun f=>qY f.2))
theorem qgZ(ts):qh qc 34 [eTS ts] (aB (z8 ts)):=by
 refine qSV call34 func34 rfl ?_;by_cases h1:ts.sS.length<=4
 case neg =>
  have hf:z8 ts=false:=by simp[z8,limB,h1]
  have J:(4:Int)<ts.sS.length:=zOm;rw[hf];simp[go_sem,J];exact .zsc _
 have J:¬(4:Int)<ts.sS.length:=zOm;by_cases h2:ts.sA.length<=6
 case neg =>
  have hf:z8 ts=false:=by simp[z8,limB,h2]
  have P:(6:Int)<ts.sA.length:=zOm;rw[hf];simp[go_sem,J,P];exact .zsc _
 have P:¬(6:Int)<ts.sA.length:=zOm;by_cases h3:ts.sT.length<=8
 case neg =>
  have hf:z8 ts=false:=by simp[z8,limB,h3]
  have T:(8:Int)<ts.sT.length:=zOm;rw[hf];simp[go_sem,J,P,T];exact .zsc _
 have T:¬(8:Int)<ts.sT.length:=zOm;by_cases h4:ts.sP.length<=16
 case neg =>
  have hf:z8 ts=false:=by simp[z8,limB,h4]
  have a2:(16:Int)<ts.sP.length:=zOm;rw[hf];simp[go_sem,J,P,T,a2];exact .zsc _
 have a2:¬(16:Int)<ts.sP.length:=zOm;simp[go_sem,J,P,T,a2];have ae:limB ts=true:=by grind [limB]
 generalize U:ts.sS.length=o at *
 refine aC ts.sA.length (fun k st=>st.tm 1 = .ip (cTS ts)/\st.tm 3=aI k/\∀ j f,j<k->ts.sA[j]?=some f->fldB o f=true) ?_ ?_
 .simp [go_sem, *]
 .rintro k st hk ⟨C,e3,hI⟩
  by_cases I:k=ts.sA.length
  .have ag:ts.sA.all (fldB o)=true:=by
    grind [q8,List.mem_iff_getElem?,qi]
   simp[go_sem,C,e3,I];refine aC ts.sT.length (fun k st=>st.tm 1 = .ip (cTS ts)/\st.tm 6=aI k/\∀ j p,j<k->ts.sT[j]?=some p->(parB o p.params&&qY p.body)=true) ?_ ?_
   .simp [go_sem, *]
   .clear C e3 hI I hk k st
    rintro k st hk ⟨C,e6,hI⟩;by_cases I:k=ts.sT.length
    .have ah:(ts.sT.all fun p=>parB o p.params&&qY p.body)=true:=by
      grind [q8,List.mem_iff_getElem?,qi]
     simp[go_sem,C,e6,I];refine aC ts.sP.length (fun k st=>st.tm 1 = .ip (cTS ts)/\st.tm 7=aI k/\∀ j f,j<k->ts.sP[j]?=some f->qY f.2=true) ?_ ?_
     .simp [go_sem, *]
     .clear C e6 hI I hk k st
      rintro k st hk ⟨C,e7,hI⟩;by_cases I:k=ts.sP.length
      .have af:(ts.sP.all fun f=>qY f.2)=true:=by
        grind [q8,List.mem_iff_getElem?,qi]
       have a5:z8 ts=true:=by
        grind [z8]
       rw[a5];simp[go_sem,C,e7,I];exact .zsc _
      .have g:k<ts.sP.length:=by omega
       have w1:=zWk k;have hg:ts.sP[k]?=some ts.sP[k]:=qx g;have R:=Wy ts.sP[k].2;simp[go_sem,C,e7,g]
       try refine cN zKr ?_
       try simp[go_sem,C,e7,g]
       refine cY R (.zk (zd _) .nil) ?_;cases a6:qY ts.sP[k].2 with
       |false =>
        have hb:z8 ts=false:=by
         grind [qY,List.all_eq_false,qv,z8]
        rw[hb];simp[go_sem];exact .zsc _
       |true =>
        simp[go_sem,e7,g,w1]
        try refine⟨g,aP ?_⟩
        try refine aP ?_
        refine⟨zS1 C,zSi,fun i f hi hf=>?_⟩
        grind
    .have g:k<ts.sT.length:=by omega
     have w1:=zWk k;have hg:ts.sT[k]?=some ts.sT[k]:=qx g;have r:(parB o ts.sT[k].params&&qY ts.sT[k].body)=false->z8 ts=false:=fun hb=>by
      grind [parB,qY,List.all_eq_false,qv,z8]
     have a1:=qgX ts ts.sT[k].params;rw[U]at a1;have R:=Wy ts.sT[k].body;have a7:WKs [eTS ts,lPm ts.sT[k].params] [eTS ts,lPm ts.sT[k].params] := .zk (zt ts) (.zk (Ye _) .nil);simp[go_sem,C,e6,g];refine cN zKr ?_;simp[go_sem,C,e6,g];refine cY a1 a7 ?_;cases a8:parB o ts.sT[k].params with
     |false =>
      rw[r (by rw[a8];rfl)];simp[go_sem];exact .zsc _
     |true =>
      simp[go_sem,C,e6,g];refine cY R (.zk (zd _) .nil) ?_;cases a6:qY ts.sT[k].body with
      |false =>
       rw[r (by grind)];simp[go_sem];exact .zsc _
      |true =>
       simp[go_sem,e6,g,w1]
       try refine⟨g,aP ?_⟩
       try refine aP ?_
       refine⟨zS1 C,zSi,fun i f hi hf=>?_⟩
       grind
  .have g:k<ts.sA.length:=by omega
   have hg:ts.sA[k]?=some ts.sA[k]:=qx g;have r:fldB o ts.sA[k]=false->z8 ts=false:=fun hb=>by
    have:ts.sA.all (fldB o)=false:=List.all_eq_false.2 ⟨_,qv g,zP1 hb⟩;simp[z8,U,this]
   by_cases c1:1<=ts.sA[k].sS.length
   case neg =>
    rw[r (by simp[fldB,c1])];have a0:(ts.sA[k].sS.length:Int)<1:=zOm;simp[go_sem,C,e3,g,a0];exact .zsc _
   have a0:¬(ts.sA[k].sS.length:Int)<1:=zOm;by_cases c3:ts.sA[k].sS.length<=3
   case neg =>
    rw[r (by simp[fldB,c3])];have a3:(3:Int)<ts.sA[k].sS.length:=zOm;simp[go_sem,C,e3,g,a0,a3];exact .zsc _
   have a3:¬(3:Int)<ts.sA[k].sS.length:=zOm;simp[go_sem,C,e3,g,a0,a3];refine aC ts.sA[k].sS.length (fun j s=>s.tm 1 = .ip (cTS ts)/\s.tm 3=aI k/\s.tm 4=lI ts.sA[k].sS/\s.tm 5=aI j/\∀ i x,i<j->ts.sA[k].sS[i]?=some x->0<=x/\x<o) ?_ ?_
   .exact ⟨zS1 C,zS1 e3,zSi,zSi,fun i x hi=>absurd hi zOm⟩
   .rintro j s hj ⟨f1,f3,f4,f5,hJ⟩
    generalize hl:ts.sA[k].sS=l at *
    by_cases a9:j=l.length
    .have w1:=zWk k
     have a4:fldB o ts.sA[k]=true:=by
      simp only[fldB,hl,qu,decide_eq_true_eq,q8];refine⟨⟨c1,c3⟩,fun x hx=>?_⟩;obtain⟨i,hi⟩:=List.mem_iff_getElem?.1 hx;exact hJ i x (by have:=(qi.1 hi).1;omega) hi
     simp[go_sem,f3,f4,f5,a9,w1]
     try refine⟨g,aP ?_⟩
     try refine aP ?_
     refine⟨zS1 f1,zSi,fun i f hi hf=>?_⟩;by_cases aa:i=k
     .subst aa;rw[hg]at hf;cases hf;exact a4
     .exact hI i f zOm hf
    .have t:j<l.length:=by omega
     have w1:=zWk j;have ab:l[j]?=some l[j]:=qx t;by_cases hq:0<=l[j]/\l[j]<o
     .have q1:¬l[j]<0:=by omega
      have q2:¬(o:Int)<=l[j]:=zOm;simp[go_sem,f4,f5,t];refine cN zKr ?_;simp[go_sem,f1,f4,f5,t,q1,q2,w1,U]
      try refine⟨t,aP ?_⟩
      try refine aP ?_
      refine⟨zS1 f1,zS1 f3,zS1 f4,zSi,fun i x hi hx=>?_⟩;by_cases ad:i=j
      .subst ad;rw[ab]at hx;cases hx;exact hq
      .exact hJ i x zOm hx
     .rw [r (by
       rw[fldB,hl,Bool.and_eq_false_iff];refine .inr (List.all_eq_false.2 ⟨l[j],qv t,?_⟩);simp only[qu,decide_eq_true_eq];exact hq)]
      by_cases q1:l[j]<0
      .simp [go_sem,f4,f5,t]
       refine cN zKr ?_;simp[go_sem,f4,f5,t,q1];exact .zsc _
      .have q2:(o:Int)<=l[j]:=by omega
       simp[go_sem,f4,f5,t];refine cN zKr ?_;simp[go_sem,f1,f4,f5,t,q1,q2,U];exact .zsc _
theorem qg0{ts}(h:z8 ts=true)(i:∀ x,x∈ts.sS->x.1.size<=4611686018427387904):okTS ts/\(∀ p,p∈ts.sT->WfN p.body)/\∀ f,f∈ts.sP->WfN f.2:=by
 simp only[z8,limB,fldB,qu,decide_eq_true_eq,q8]at h;obtain⟨⟨⟨⟨j,l⟩,o⟩,r⟩,hf,t,C⟩:=h;refine⟨⟨j,l,o,r,i,fun f g=>?_,fun p g=>?_⟩,fun p g=>v9 (t p g).2,fun f g=>v9 (C f g)⟩
 .grind
 grind [qgY]
end Q8
namespace FD
end FD
namespace GF
open E1 EO EW F4 GD
abbrev rP(p:Int×Int):List AV:=[aI p.1,aI p.2]
abbrev lP(ps:List (Int×Int)):AV := .lst false (ps.map rP)
theorem Yk(xs:List (Int×Int)):zb 2 (xs.map rP):=fun r g=>by
 obtain⟨n,_,rfl⟩:=qp.1 g;exact⟨rfl,rfl⟩
abbrev eBd(b:Bd):AV := .agg (cBd b)
theorem Wz(b):∀ c,c∈cBd b->HF c:=by
 intro c g;simp at g;rcases g with rfl|rfl|rfl|rfl
 .exact HF.sc _
 .exact qR _
 .exact HF.sc _
 .exact qR _
theorem pN(b):HF (eBd b):=HF.agg (Wz b)
theorem qg1(x):qh qc 202 [eBd x] (.fn (.func 225) [] [.ip (cBd x)]):=by
 refine qSU call202 func202 rfl ?_;refine .hf _ (HF.fn (fun c g=>by simp at g) (fun c g=>?_))
 grind [HF.ip,Wz]
def vH(x:Bd):List Int:=x.up.ts.filter fun t=>!decide (t∈x.lo.ts)
theorem qg2{C:Type}(p)(l:List C)(k h)(g:p l[k]=true):(l.filter p)[((l.take k).filter p).length]?=some l[k]:=by
 have e:l=l.take k++l[k] :: l.drop (k+1):=by
  rw[<-zB h,un]
 have i:l.filter p=(l.take k).filter p++l[k] :: (l.drop (k+1)).filter p:=by
  conv=>lhs;rw[e]
  rw[List.filter_append,List.filter_cons,if_pos g]
 rw[i,zK (qs _)];simp
theorem qg3{C:Type}(p)(l:List C)(k h):((l.take (k+1)).filter p).length=((l.take k).filter p).length+(if p l[k]=true then 1 else 0):=by
 rw[List.take_add_one,qx h,List.filter_append];cases g:p l[k]<;>simp[g]
theorem qg4(x)(hl:x.up.ts.length<=1000000000)(P:x.lo.ts.length<=1000000000)(hs:x.lo.ts.Pairwise (·<=·)):jo qc 225 [.ip (cBd x)] ((vH x).map fun t=>[aI t]):=by
 refine jo.of call225 fun i I Ix hS hX hY mu h0=>?_
 refine qSW call225 func225 rfl {} ?_;simp[go_sem];refine cH (fun m st=>∃ k,m=x.up.ts.length-k/\k<=x.up.ts.length/\st.tm 0 = .yl i/\st.tm 1 = .ip (cBd x)/\st.tm 9=lI x.up.ts/\st.tm 10=aI x.up.ts.length/\st.tm 11=aI (k:Nat)/\I ((x.up.ts.take k).filter fun t=>!decide (t∈x.lo.ts)).length st.mu) x.up.ts.length ?_ ?_
 .exact ⟨0,zOm,zOm,zSi,zSi,zSi,zSi,zSi,zVs h0⟩
 rintro m st ⟨k,rfl,hk,R,T,U,o,p,J⟩;by_cases r:k<x.up.ts.length
 .simp [go_sem,T,U,o,p,r]
  refine cY (binU x.lo.ts x.up.ts[k] P hs) (.zk (qR _) (.zs .nil)) ?_;have g:=qg3 (fun t=>!decide (t∈x.lo.ts)) x.up.ts k r;by_cases j:x.up.ts[k]∈x.lo.ts
  .simp [go_sem,p,j]
   rw[if_neg (zUs j),Nat.add_zero]at g;refine Keep.loop (x.up.ts.length-(k+1)) zOm ⟨k+1,rfl,zOm,zS1 R,zS1 T,zS1 U,zS1 o,?_,?_⟩
   .simp [go_sem];exact zWr
   .rw [g];simpa[go_sem] using J
  .simp [go_sem,R,j]
   rw[if_pos (zUs j)]at g;have C:((vH x).map fun t=>[aI t])[((x.up.ts.take k).filter fun t=>!decide (t∈x.lo.ts)).length]?=some [aI x.up.ts[k]]:=by
    rw[zj,vH,qg2 _ _ k r (zUs j)];rfl
   refine qe.yield (hY _ _ _ C J) ?_;rintro b l (⟨rfl,a0⟩|⟨rfl,a1⟩)
   .simp [go_sem,p]
    refine Keep.loop (x.up.ts.length-(k+1)) zOm ⟨k+1,rfl,zOm,zS1 R,zS1 T,zS1 U,zS1 o,?_,?_⟩
    .simp [go_sem];exact zWr
    .rw [g];simpa[go_sem] using a0
   .simp [go_sem]
    exact .inr a1
 .have a2:k=x.up.ts.length:=by omega
  subst a2;rw[za]at J;simp[go_sem,o,p];exact .inl J
def yo(k:Nat)(x:Bd):List (Int×Int):=(vH x).map fun t=>((k:Int),t)
def qM:List Bd->Nat->List (Int×Int)
 | [],_=>[]
 |x :: l,k=>yo k x++qM l (k+1)
theorem pO:∀ l m k,qM (l++m) k=qM l k++qM m (k+l.length)
 | [],m,k=>by simp[qM]
 |x :: l,m,k=>by
  rw[yU,qM,qM,pO l m (k+1),zm];have:k+1+l.length=k+(x :: l).length:=zSo;rw[this]
theorem pP(l:List Bd)(k h):qM (l.take (k+1)) 0=qM (l.take k) 0++yo k l[k]:=by
 rw[List.take_add_one,qx h];show qM (l.take k++[l[k]]) 0=_;rw[pO];have:(l.take k).length=k:=zSo;rw[this,yI];simp[qM]
structure Yl (x:Bd):Prop where
 up:x.up.ts.length<=1000000
 lo:x.lo.ts.length<=1000000
 sorted:x.lo.ts.Pairwise (·<=·)
theorem WA:∀ l k,(∀ x,x∈l->Yl x)->(qM l k).length<=l.length*1000000
 | [],k,_=>by simp[qM]
 |x :: l,k,h=>by
  have i:=WA l (k+1) (fun y g=>h y (zP1 g));have j:(yo k x).length<=1000000:=by
   rw[yo,yi];exact zS (List.length_filter_le _ _) (h x zSp).up
  simp only[qM,qW,zC];omega
theorem aW{mu av xs}(h:Own mu 2 av (xs.map rP)):Rd mu av (lP xs):=
 h.rd (Yk xs).ok fun r i c g=>by
  obtain⟨n,_,rfl⟩:=qp.1 i;simp at g;rcases g with rfl|rfl<;>exact HF.sc _
theorem freeU(g)(hl:g.length<=1000)(hb:∀ x,x∈g->Yl x):qh qc 185 [lBd g] (lP (qM g 0)):=by
 refine qSU call185 func185 rfl ?_;refine cH (fun m st=>∃ k P C,m=g.length-k/\k<=g.length/\st.tm 3 = .ptr 0 0/\st.tm 7=lBd g/\st.tm 8=aI g.length/\st.tm 9=aI (k:Nat)/\st.mu = .arr [P] :: C/\Own st.mu 2 P ((qM (g.take k) 0).map rP)/\qr P≠some 0) g.length ?_ ?_
 .refine ⟨0,.lst true [],[],zOm,zOm,zSi,zSi,zSi,zSi,zSi,?_,by simp[qr]⟩
  simp[go_sem,qM];exact .inl rfl
 rintro m st ⟨k,P,C,rfl,hk,e3,e7,e8,e9,hm,ho,a9⟩;by_cases U:k<g.length
 .have hx:=hb _ (qv U)
  have ae:(qM (g.take (k+1)) 0).length<=1000000000:=by
   grind [WA,ja,Nat.mul_le_mul_right]
  have a0:=pP g k U;rw[hm]at ho;have aa:qr P≠some (C.length+1):=fun h=>by have:=Own.lt ho h;simp at this
  simp[go_sem,e7,e8,e9,hm,U];refine fY (qg1 g[k]) (.zk (pN _) .nil) ?_;refine cJ (qg4 g[k] (zW1 hx.up) (zW1 hx.lo) hx.sorted) (fun j M=>∃ P o,M = .arr [P] :: o/\M[C.length+1]?=some (.arr [aI k])/\Own M 2 P ((qM (g.take k) 0++(yo k g[k]).take j).map rP)/\qr P≠some 0/\qr P≠some (C.length+1)) (fun _ _=>False) ?_ ?_ ?_ ?_ ?_ ?_
  .refine ⟨P,_,by simp only[yO,yU];rfl,zSi,?_,a9,aa⟩
   have:=Own.push ho [Cell.arr [aI k],Cell.arr (cBd g[k]),.dead];simp_all[go_sem]
  .rintro j M ⟨P,o,rfl,h1,h2,h3,h4⟩
   exact⟨P,o++[.dead],rfl,by grind,Own.push h2 _,h3,h4⟩
  .grind
  .rintro j x M hj ⟨P,o,rfl,h1,h2,h3,h4⟩
   rw[zj,yA]at hj;obtain⟨t,ht,rfl⟩:=hj;have af:j<(vH g[k]).length:=(qi.1 ht).1;have ag:(yo k g[k]).take (j+1)=(yo k g[k]).take j++[((k:Int),t)]:=by
    rw[List.take_add_one];have:(yo k g[k])[j]?=some ((k:Int),t):=by rw[yo,zj,ht];rfl
    rw[this];rfl
   have ah:(qM (g.take k) 0++(yo k g[k]).take j).length<=1000000000:=by
    grind
   refine⟨rfl,?_⟩;have ab:=(qi.1 h1).1;have a3:=h1;simp at a3;simp[go_sem,e3,a3];refine qD.ownB (e:=148) (sz:=2) (bt:=16) (zv := .agg [aI 0,aI 0]) (xs:=(qM (g.take k) 0++(yo k g[k]).take j).map rP) (ys:=[rP ((k:Int),t)]) zSi zSi zSi rfl rfl zOm zOm h2 (by simp[qF]) (Yk _) (Yk [((k:Int),t)]) (by grind) ?_;intro R l a1 a4 ai aj;have ad:=a4 0 zSp h3;have a5:=a4 (C.length+1) ab h4;rw[h1]at a5;obtain⟨I,rfl⟩:∃ I,l = .arr [P] :: I:=by
    cases l with
    |nil=>simp at ad
    |cons c r=>grind
   have T:qr R≠some 0:=fun h=>by grind
   have a6:qr R≠some (C.length+1):=fun h=>by grind
   have a7:=Own.set a1 (i:=0) (.arr [R]) T;have a8:(qM (g.take k) 0++(yo k g[k]).take j).map rP++[rP ((k:Int),t)]=(qM (g.take k) 0++(yo k g[k]).take (j+1)).map rP:=by
    grind
   rw[a8]at a7;simp[go_sem,e3,Own.one a1,Own.cells a1];exact cV ⟨R,I,rfl,zUs a5,zUs a7,T,a6⟩
  .rintro M ⟨P,o,rfl,h1,h2,h3,h4⟩
   have a2:(yo k g[k]).take ((vH g[k]).map fun t=>[aI t]).length=yo k g[k]:=by
    simp_all[yi,zn,yo,qs]
   rw[a2,<-a0]at h2;simp[go_sem,e9];refine Keep.loop (g.length-(k+1)) zOm ⟨k+1,P,o,rfl,zOm,zS1 e3,zS1 e7,zS1 e8,?_,zSi,zVs h2,h3⟩;simp[go_sem];grind [jb]
  grind
 .have ak:k=g.length:=by omega
  simp_all[go_sem,za,aW]
end GF
namespace GH
open P1 YF E3 EO EW F1 F4 GF GG
abbrev lMd(l:List Md):AV := .lst false (l.map cMd)
theorem WB(xs:List Md):zb 4 (xs.map cMd):=fun r g=>by
 obtain⟨n,_,rfl⟩:=qp.1 g;exact⟨rfl,rfl⟩
theorem WC:∀ r c x,x∈subL c r->∀ y,y∈x->y∈c\/y∈r
 | [],c,x,h,y,g=>by grind [subL,qL]
 |z :: r,c,x,h,y,g=>by
  rw[subL,qI]at h;rcases h with h|h
  .rcases WC r c x h y g with h|h
   .exact .inl h
   .exact .inr (zP1 h)
  .rcases WC r _ x h y g with h|h
   .rcases qI.1 h with h|h
    .exact .inl h
    .rw [qL]at h;subst h;exact .inr zSp
   .exact .inr (zP1 h)
def jE(g:Nat->List (List AV)->Md)(cs:List (List AV))(k:Nat):List Md:=(qq k).flatMap fun s=>(subL [] cs).map (g s)
theorem pQ(g cs k):jE g cs (k+1)=jE g cs k++(subL [] cs).map (g k):=by
 unfold jE;rw[List.range_succ,List.flatMap_append];simp
theorem pR(g cs):∀ k,(jE g cs k).length=k*(subL [] cs).length
 | 0=>by simp[jE]
 |k+1=>by rw[pQ,qW,pR g cs k,yi,Nat.succ_mul]
theorem aX{mu av xs}(h:Own mu 4 av (xs.map cMd)):Rd mu av (lMd xs):=
 h.rd (WB xs).ok fun r i c g=>by
  obtain⟨n,_,rfl⟩:=qp.1 i;simp at g;rcases g with rfl|rfl|rfl|rfl<;>first|exact HF.sc _|exact qR _|exact Zf _
theorem qg5(ts)(sc:Sc)(bs cs g)(S:Nat)(hS:sc.sN=S)(aw:S<=4)(hr:wm cs)(hl:cs.length<=14)(ao:S*(subL [] cs).length<=1000000)
  (ax:S*2 ^ cs.length<=16384)
  (U:qh qc 128 [eTS ts,eSc sc] (aB true)) (R:qh qc 176 [eTS ts,eSc sc,lBd bs] (aB true)) (h3:qh qc 177 [eTS ts,eSc sc,lBd bs] (.lst false cs))
  (hi:∀ k,k<S->∀ c,c∈subL [] cs->qh qc 179 [eTS ts,eSc sc,lBd bs,aI (k:Nat),.lst false c] (eMd (g k c))):qh qc 158 [eTS ts,eSc sc,lBd bs] (.tup [lMd (jE g cs S),aI 0]):=by
 refine qSU call158 func158 rfl ?_;refine fY U (.zk (zt _) (.zk (zM _) .nil)) ?_;refine fY R (.zk (zt _) (.zk (zM _) (.zk (uD _) .nil))) ?_;refine cY h3 (.zk (zt _) (.zk (zM _) (.zk (uD _) .nil))) ?_;have af:¬(14:Int)<cs.length:=zOm;have n0:¬(cs.length:Int)<0:=zOm;have nm:min cs.length 64=cs.length:=zOm;have aq:(S:Int)*2 ^ cs.length<=16384:=by grind
 have ar:(0:Int)<=(S:Int)*2 ^ cs.length:=by exact_mod_cast Nat.zero_le _
 have ag:qw.wrap ((S:Int)*2 ^ cs.length)=(S:Int)*2 ^ cs.length:=zWr;have ah:¬(16384:Int)<(S:Int)*2 ^ cs.length:=zOm;simp[go_sem,af,hS,n0,nm,ag,ah];refine cH (fun m st=>∃ k P t,m=S-k/\k<=S/\st.tm 3 = .ip (cTS ts)/\st.tm 4 = .ip [lI sc.sC,aI sc.sN]/\st.tm 5 = .ip [lBd bs]/\st.tm 8 = .lst false cs/\st.tm 9 = .ptr 0 0/\st.tm 39=aI S/\st.tm 40=aI (k:Nat)/\st.mu = .arr [P] :: t/\Own st.mu 4 P ((jE g cs k).map cMd)/\qr P≠some 0) S ?_ ?_
 .refine ⟨0,.lst true [],[],zOm,zOm,zSi,zS1 hS,zSi,zSi,zSi,zSi,zSi,zSi,?_,by simp[qr]⟩
  simp[go_sem,jE];exact .inl rfl
 rintro m st ⟨k,P,t,rfl,hk,e3,e4,e5,e8,e9,a0,a1,hm,ho,ai⟩;by_cases a6:k<S
 .have ay:=pR g cs (k+1)
  have au:=Nat.mul_le_mul_right (subL [] cs).length (show k+1<=S by omega);have a2:=pQ g cs k;rw[hm]at ho;have aj:qr P≠some (t.length+1):=fun h=>by have:=Own.lt ho h;simp at this
  simp[go_sem,e8,a0,a1,hm,a6];refine fY (qfW cs hr) (.zk (HF.lst fun r a3 x hx=>(hr r a3).2.2 x hx) .nil) ?_;refine cJ (qfU cs hr zOm) (fun j M=>∃ P o,M = .arr [P] :: o/\M[t.length+1]?=some (.arr [aI k])/\Own M 4 P ((jE g cs k++((subL [] cs).map (g k)).take j).map cMd)/\qr P≠some 0/\qr P≠some (t.length+1)) (fun _ _=>False) ?_ ?_ ?_ ?_ ?_ ?_
  .refine ⟨P,_,by simp only[yO,yU];rfl,zSi,?_,ai,aj⟩
   have:=Own.push ho [Cell.arr [aI k],.dead];simp_all[go_sem]
  .rintro j M ⟨P,o,rfl,U,R,h3,h4⟩
   exact⟨P,o++[.dead],rfl,by grind,Own.push R _,h3,h4⟩
  .grind
  .rintro j x M hj ⟨P,o,rfl,U,R,h3,h4⟩
   rw[zj,yA]at hj;obtain⟨c,hc,rfl⟩:=hj;have az:j<(subL [] cs).length:=(qi.1 hc).1;have a7:c∈subL [] cs:=zh hc;have b0:((subL [] cs).map (g k)).take (j+1)=((subL [] cs).map (g k)).take j++[g k c]:=by
    rw[List.take_add_one];have:((subL [] cs).map (g k))[j]?=some (g k c):=by rw[zj,hc];rfl
    rw[this];rfl
   refine⟨rfl,?_⟩;have ak:=(qi.1 U).1;have a8:=U;simp at a8;simp[go_sem];refine cN zKr ?_;simp[go_sem,e3,e4,e5,e9,a8];refine cY (hi k a6 c a7) (.zk (zt _) (.zk (zM _) (.zk (uD _) (.zs (.zk (HF.lst ?_) .nil))))) ?_
   .exact fun r a3 x hx=>(hr r (by rcases WC cs [] c a7 r a3 with h|h;exact absurd h zSp;exact h)).2.2 x hx
   simp[go_sem];refine qD.ownB (e:=43) (sz:=4) (bt:=64) (zv := .agg [.lst true [],aI 0,.lst true [],aI 0]) (xs:=jE g cs k++((subL [] cs).map (g k)).take j |>.map cMd) (ys:=[cMd (g k c)]) zSi zSi zSi rfl rfl zOm zOm R (by simp[qF]) (WB _) (WB [g k c]) ?_ ?_
   .grind
   intro I l a4 a9 b1 b2;have al:=a9 0 zSp h3;have aa:=a9 (t.length+1) ak h4;rw[U]at aa;obtain⟨C,rfl⟩:∃ C,l = .arr [P] :: C:=by
    cases l with
    |nil=>simp at al
    |cons c r=>grind
   have T:qr I≠some 0:=fun h=>by grind
   have ab:qr I≠some (t.length+1):=fun h=>by grind
   have ad:=Own.set a4 (i:=0) (.arr [I]) T;have ae:(jE g cs k++((subL [] cs).map (g k)).take j).map cMd++[cMd (g k c)]=(jE g cs k++((subL [] cs).map (g k)).take (j+1)).map cMd:=by
    grind
   rw[ae]at ad;simp[go_sem,e9,Own.one a4,Own.cells a4];exact cV ⟨I,C,rfl,zUs aa,zUs ad,T,ab⟩
  .rintro M ⟨P,o,rfl,U,R,h3,h4⟩
   have a5:((subL [] cs).map (g k)).take ((subL [] cs).map fun c=>[AV.lst false c]).length=(subL [] cs).map (g k):=by
    rw[yi,zn zSp]
   rw[a5,<-a2]at R;simp[go_sem,a1];refine Keep.loop (S-(k+1)) zOm ⟨k+1,P,o,rfl,zOm,zS1 e3,zS1 e4,zS1 e5,zS1 e8,zS1 e9,zS1 a0,?_,zSi,zVs R,h3⟩;simp[go_sem];grind [jb]
  grind
 .have an:k=S:=by omega
  subst an;rw[hm]at ho;simp[go_sem,e9,a0,a1,hm];refine .tup _ _ rfl fun j x y hx hy=>?_
  match j with
  | 0=>grind [aX]
  | 1=>simp at hx hy;subst hx;subst hy;exact .zsc _
  |j+2=>simp at hx
end GH
namespace JE
open E4 F1 JB JC
section
variable {l:List (j1×je)}
def Vn:List (j1×je)->j1->Option je
 | [],_=>none
 |p :: l,f=>if f=p.1 then some p.2 else Vn l f
def pS(f:j1)(c:List AV):Bool:=match c with
 | [.ip [.lst _ []]]=>f == 297
 |_=>false
def envL(l:List (j1×je)):EnvJ:=⟨Vn l,pS,fun _=>[],fun f=>calL.any fun x=>x.1 == f⟩
theorem pT{P}:∀{l},(∀ p,p∈l->jp P p.1 p.2)->∀ f h,Vn l f=some h->jp P f h
 | [],_,_,_,h=>by cases h
 |p :: l,g,f,h,e=>by
  unfold Vn at e;split at e
  .rename_i i;cases e;subst i;exact g p (qN ..)
  .exact pT (fun q j=>g q (qB _ j)) f h e
theorem WD(g:∀ p,p∈l->jp qc p.1 p.2):qV qc (envL l):=by
 refine⟨pT g,fun f hf=>?_,fun f c h=>?_⟩
 .simp only[envL,List.any_eq_true,beq_iff_eq]at hf
  obtain⟨x,_,rfl⟩:=hf;exact x.2
 .simp only[envL,pS]at h
  split at h
  .rw [beq_iff_eq]at h;subst h;exact backX _
  .cases h
theorem qh.wk{P f args v w}(h:qh P f args v)(k:WK v w):qh P f args w:=by
 exact⟨h.1,fun i w j l o=>(h.2 i w j l o).mono fun e J ⟨g,u,p,r,t,C,I⟩=>⟨g,u,p,r,t,C,k _ _ _ I⟩⟩
noncomputable def Ym(E:EnvJ)(n:Nat)(f:j1)(args:List AV)(w:AV):Bool:=match Ya qc E n f args with
 |some v=>hfB 64 v&&eqV 64 (nV 64 v) w
 |none=>false
theorem wq{E}(g:qV qc E){n f args w}(h:Ym E n f args w=true):qh qc f args w:=by
 unfold Ym at h;split at h
 .rename_i v i
  rw[qu]at h;rw[<-Qz h.2];exact qh.wk (U5 g i) (U4 64 64 v h.1)
 .cases h
theorem qg6{i j l o p t C I J P R T e4 x r}(ho:[i,j,l,o,p,t,C,I,J,P,R,T,e4].all AV.one=true)(ha:HF (.agg [i,j,l,o]))(hb:HF (.agg [p,t,C,I]))(he:HF (.agg [J,P,R,T,e4]))(hx:HF x)(h1:qh qc 200 [.agg [i,j,l,o],.agg [p,t,C,I]] x)(h2:qh qc 201 [x,.agg [aI 0,.lst false []],.agg [J,P,R,T,e4]] (aB r)) :
  qh qc 181 [.agg [i,j,l,o],.agg [p,t,C,I],aI 0,.lst false [],.agg [J,P,R,T,e4]] (.tup [aB r,aI 0]):=by
 simp only[List.all_cons,List.all_nil,Bool.and_true,qu]at ho;obtain⟨o0,o1,o2,o3,o4,o5,o6,o7,o8,o9,oa,ob,oc⟩:=ho;refine U8.toP ?_;refine JY.of_sound ?_;refine aK call181 func181 rfl (Nat.le_of_ble_eq_true zKr) zKr (pl:={}) ?_;simp[go_sem,o0,o1,o2,o3,o4,o5,o6,o7,o8,o9,oa,ob,oc];refine cU (g:=199) (first:=[]) (caps:=[]) zSi call199 ?_;simp[go_sem];refine qj.tail 7 zKr ?_;simp[go_sem];refine fY h1 (.zk ha (.zk hb .nil)) ?_;refine cY h2 (.zk hx (.zk (HF.agg fun c hc=>by
  simp at hc;rcases hc with rfl|rfl
  .exact HF.sc _
  .exact HF.lst fun r hr=>by simp at hr) (.zk he .nil))) ?_
 simp[go_sem];refine jq.mono (qfN [.arr [aI 0]] 0 0 rfl) ?_;rintro _ rfl;simp[go_sem];exact .hf _ (HF.tup (by simp only[ql,qG,or_false,forall_eq_or_imp,forall_eq];exact⟨HF.sc _,HF.sc _⟩))
noncomputable def WE(l:List (j1×je)):List AV->Option AV:=fun args=>match args with
 | [.agg [g,i,j,o],.agg [p,t,C,I],.sc (.int .i64 0),.lst false [],.agg [J,P,R,T,U]]=>match Ya qc (envL l) 2000 200 [.agg [g,i,j,o],.agg [p,t,C,I]] with
  |some x=>match Ya qc (envL l) 2000 201 [x,.agg [aI 0,.lst false []],.agg [J,P,R,T,U]] with
   |some (.sc (.bool r))=>if [g,i,j,o,p,t,C,I,J,P,R,T,U].all AV.one&&(hfB 64 x&&allJ (hfB 64) [.agg [g,i,j,o],.agg [p,t,C,I],.agg [J,P,R,T,U]]) then some (.tup [aB r,aI 0]) else none
   |_=>none
  |none=>none
 |_=>none
theorem qg7(i:qV qc (envL l)):jp qc 181 (jC (WE l)):=by
 refine Z8 fun args v h=>?_
 unfold WE at h;split at h
 .rename_i j o p t C I J P R T U e3 e4
  split at h
  .rename_i x h1
   split at h
   .rename_i r h2
    split at h
    .rename_i g
     cases h;rw[qu,qu]at g;exact qg6 g.1 (ve (vd g.2.2 (.agg [j,o,p,t]) zSp)) (ve (vd g.2.2 (.agg [C,I,J,P]) zSp)) (ve (vd g.2.2 (.agg [R,T,U,e3,e4]) zSp)) (ve g.2.1) (U5 i h1) (U5 i h2)
    .cases h
   .cases h
  .cases h
 .cases h
end
end JE
namespace JF
open P1 YF E3 EW GF GG JB JE
def bA(l:List UInt8):cL:=⟨⟨l⟩⟩
def tsH:TS:=⟨[(bA [65],false)],[⟨bA [102],[0],false⟩],[],[]⟩
def scH:Sc:=⟨[3],1⟩
def bsH:List Bd:=[⟨⟨1,[]⟩,⟨1,[0,1,2]⟩⟩]
def csH:List (List AV):=[[aI 0,aI 0,aI 0],[aI 0,aI 0,aI 1],[aI 0,aI 0,aI 2]]
def rkH(r:List AV):Int:=match r with | [_,_,.sc (.int _ n)]=>n|_=>0
def inH(k:Nat)(c:List (List AV)):Md:=⟨scH,[[⟨1,c.map rkH⟩]],k⟩
def pU:List (List AV×AV):=[([eSc scH,lI [0]],eRel ⟨1,[0,1,2]⟩)]
def pV:List (List AV×AV):=[([lBd bsH],lP [(0,0),(0,1),(0,2)])]
def H0:List (j1×je):=[(194,Wf),(43,jC (tabX pU)),(185,jC (tabX pV))]
theorem ua:qV qc (envL H0):=by
 refine WD fun p g=>?_
 simp only[H0,ql,qG,or_false]at g;rcases g with rfl|rfl|rfl
 .exact qfD
 .refine Z8 (Z9 fun p g=>?_)
  simp only[pU,ql,qG,or_false]at g;subst g;have:=k6 scH ⟨zDe,zDe⟩ zDe [0] (by intro s i;simp at i;subst i;decide) zDe zDe;exact this
 .refine Z8 (Z9 fun p g=>?_)
  simp only[pV,ql,qG,or_false]at g;subst g;have:=freeU bsH zDe (by intro x j;simp[bsH]at j;subst j;exact⟨zDe,zDe,zDe⟩);exact this
theorem uvH:qh qc 128 [eTS tsH,eSc scH] (aB true):=wq ua (n:=1000) zKr
theorem bvH:qh qc 176 [eTS tsH,eSc scH,lBd bsH] (aB true):=wq ua (n:=1000) zKr
theorem chH:qh qc 177 [eTS tsH,eSc scH,lBd bsH] (.lst false csH):=wq ua (n:=1000) zKr
theorem qg8:∀ c,c∈subL [] csH->qh qc 179 [eTS tsH,eSc scH,lBd bsH,aI (0:Nat),.lst false c] (eMd (inH 0 c)):=by
 have h:(subL [] csH).all (fun c=>Ym (envL H0) 1000 179 [eTS tsH,eSc scH,lBd bsH,aI (0:Nat),.lst false c] (eMd (inH 0 c)))=true:=zKr;exact fun c g=>wq ua (q8.1 h c g)
end JF
namespace G5
open E9 EO
theorem WG(sc)(g:GSc sc)(n:Nat)(J:n<=1000000):qh qc 153 [eSc sc,aI n] (aI (sumI (sc.sC.take n))):=by
 have P:=g.1;refine qSU call153 func153 rfl ?_;refine qn.up (min n sc.sC.length) (fun k st=>st.tm 1=aI n/\st.tm 2 = .ip [lI sc.sC,aI sc.sN]/\st.tm 5=aI (sumI (sc.sC.take k))/\st.tm 6=aI k) ?_ ?_
 .simp [go_sem,sumI]
 rintro k st R ⟨l,C,o,p⟩;by_cases j:k<n
 .by_cases i:k<sc.sC.length
  .have I:=uE sc.sC k i
   have r:=g.sum (k+1);rw[I]at r;simp[go_sem,l,C,o,p,j,i]
   grind [jb]
  .have e:sc.sC.take n=sc.sC.take k:=by rw[zn zOm,zn zOm]
   rw[e];simp[go_sem,l,C,o,p,j,i];exact .zsc _
 .have t:k=n:=by omega
  subst t;simp[go_sem,l,o,p];exact .zsc _
theorem pW(sc)(g:GSc sc):qh qc 127 [eSc sc] (aI (sumI sc.sC)):=by
 have i:=g.1;have h:=WG sc g sc.sC.length zOm;rw[za]at h;refine qSU call127 func127 rfl ?_;refine fY h (.zk (zM _) (.zs .nil)) ?_;exact .zsc _
theorem Yn(n:Int)(g:0<=n)(i:n<=20):∀ k,k<=3->0<=n ^ k/\n ^ k<=8000
 | 0,_=>zSp
 | 1,_=>by rw[show n ^ 1=n by rw[Int.pow_succ,Int.pow_zero,Int.one_mul]];omega
 | 2,_=>by
  have:n*n<=20*20:=uq i i g zOm;have j:=Int.mul_nonneg g g;rw[show n ^ 2=n*n by grind];omega
 | 3,_=>by
  have j:n*n<=20*20:=uq i i g zOm;have l:=Int.mul_nonneg g g;have o:n*n*n<=400*20:=uq j i g zOm;simp_all[Int.mul_nonneg,Int.pow_succ,Int.pow_zero,Int.one_mul]
 |k+4,h=>zOm
theorem pX(sc)(g:GSc sc)(n:Nat)(J:n<=3):qh qc 117 [eSc sc,aI n] (aI (sumI sc.sC ^ n)):=by
 have j:=g.sum sc.sC.length;rw[za]at j;refine qSU call117 func117 rfl ?_;refine qn.up n (fun k st=>st.tm 1=aI n/\st.tm 2 = .ip [lI sc.sC,aI sc.sN]/\st.tm 5=aI (sumI sc.sC ^ k)/\st.tm 6=aI k) ?_ ?_
 .simp [go_sem]
 rintro k st P ⟨l,r,t,o⟩;by_cases i:k<n
 .have C:=Yn (sumI sc.sC) j.1 j.2 (k+1) zOm
  have e:sumI sc.sC ^ (k+1)=sumI sc.sC ^ k*sumI sc.sC:=Int.pow_succ ..;rw[e]at C;have I:(k:Int)<3:=zOm;simp[go_sem,l,r,t,o,i,I];refine cY (pW sc g) (.zk (zM _) .nil) ?_;simp[go_sem,l,r,o,i]
  grind [jb]
 .have p:k=n:=by omega
  subst p;simp[go_sem,l,t,o];exact .zsc _
theorem pY(l x)(g:∀ a,a∈l->0<=a):∀ k i,k<=l.length->sumI (l.take k)<=x->jP l x i=jP (l.drop k) (x-sumI (l.take k)) (i+k):=by
 intro k;induction k with
 |zero=>grind [sumI]
 |succ k j =>
  intro i p r;have o:=uE l k zOm;have t:=g _ (qv (show k<l.length by omega));rw[j i zOm zOm,py l k _ _ zOm,zIn,o]
  grind
theorem qg9(sc)(g:GSc sc)(x:Nat)(T:x<=1000):qh qc 150 [eSc sc,aI x] (aI (jQ sc x)):=by
 have U:=g.1;have l:∀ a,a∈sc.sC->0<=a:=fun a R=>(g.2 a R).1
 refine qSU call150 func150 rfl ?_;refine qn.up sc.sC.length (fun k st=>st.tm 1=aI x/\st.tm 2 = .ip [lI sc.sC,aI sc.sN]/\st.tm 5=aI k/\sumI (sc.sC.take k)<=x) ?_ ?_
 .simp [go_sem,sumI]
 rintro k st I ⟨r,p,o,t⟩;by_cases j:k<sc.sC.length
 .have hs:=uE sc.sC k j
  have i:=pY sc.sC x l k 0 I t;rw[py sc.sC k _ _ j]at i;have J:qw.wrap ((k:Int)+1)=((k+1:Nat):Int):=by grind [jb]
  simp[go_sem,r,p,o,j];refine cY (WG sc g k zOm) (.zk (zM _) (.zs .nil)) ?_;simp[go_sem,r,p,o,t,J];refine cY (WG sc g (k+1) zOm) (.zk (zM _) (.zs .nil)) ?_;by_cases P:(x:Int)<sumI (sc.sC.take (k+1))
  .have e:jQ sc x=k:=by
    unfold jQ;rw[i,if_pos zOm];omega
   rw[e];simp[go_sem,o,P];exact .zsc _
  .simp [go_sem,r,p,o,j,P,J]
   omega
 .have C:k=sc.sC.length:=by omega
  subst C;have e:jQ sc x = -1:=by
   unfold jQ;rw[pY sc.sC x l sc.sC.length 0 I t,yr];rfl
  rw[e];simp[go_sem,p,o];exact .zsc _
def digs(n:Int):Nat->Int->List Int
 | 0,_=>[]
 |k+1,r=>digs n k (r / n)++[r % n]
theorem Zl(n):∀ k r,(digs n k r).length=k
 | 0,_=>rfl
 |k+1,r=>by rw[digs,qW,Zl n k];rfl
theorem pZ(n):∀ j x,divN n (x / n) j=divN n x (j+1)
 | 0,x=>rfl
 |j+1,x=>by rw[divN,pZ n j x];rfl
theorem p5(n):∀ j r,digs n (j+1) r=(divN n r j % n) :: digs n j r
 | 0,r=>by simp[digs,divN]
 |j+1,r=>by
  rw[digs,p5 n j (r / n),pZ,yU];rfl
theorem WH(n r)(i:0<n)(g:0<=r):∀ j,0<=divN n r j/\divN n r j<=r
 | 0=>⟨g,by simp[divN]⟩
 |j+1=>by
  have:=WH n r i g j;rw[divN];have l:=Int.ediv_le_self n this.1;exact⟨Int.ediv_nonneg this.1 zOm,zOm⟩
theorem qhA{mu b cells ds}(o:mu[b]?=some (.arr cells))(h:∀ i (I:i<ds.length),cells[i]?=some (aI ds[i])):Rd mu (.sl b 1 0 ds.length) (lI ds):=by
 refine .sl b 1 0 ds.length cells (ds.map rI) o ?_ zSp (fun r p=>by obtain⟨x,_,rfl⟩:=qp.1 p;rfl) fun k x y g l=>?_
 .grind
 .rw [yI]at g
  rw[GD.w6,zj,yA]at l;obtain⟨z,t,rfl⟩:=l;have C:=(qi.1 t);obtain⟨j,rfl⟩:=C;rw[h k j]at g;cases g;exact .zsc _
theorem qhB(sc)(g:GSc sc)(hp:0<sumI sc.sC)(k:Nat)(hk:k<=3)(r:Nat)(hr:(r:Int)<sumI sc.sC ^ k):qh qc 118 [eSc sc,aI k,aI r] (lI (digs (sumI sc.sC) k r)):=by
 have hs:=g.sum sc.sC.length;rw[za]at hs;have a7:=Yn (sumI sc.sC) hs.1 hs.2 k hk;refine qSV call118 func118 rfl ?_;have a0:¬(3:Int)<k:=zOm;have a1:¬(k:Int)<0:=zOm;have a2:¬(r:Int)<0:=zOm;simp[go_sem,a0,a1,a2];refine cY (pX sc g k hk) (.zk (zM _) (.zs .nil)) ?_;have a3:¬sumI sc.sC ^ k<=(r:Int):=zOm;simp[go_sem,a3];refine cY (pW sc g) (.zk (zM _) .nil) ?_;generalize hN:sumI sc.sC=N at *
 have w0:qw.wrap ((k:Int)-1)=(k:Int)-1:=zWr;simp[go_sem,w0];refine cH (fun m st=>∃ j:Nat,m=k-j/\j<=k/\st.tm 1=aI k/\st.tm 7 = .sl 0 1 0 3/\st.tm 8=aI N/\st.tm 9=aI (divN N r j)/\st.tm 10=aI ((k:Int)-1-j)/\∃ c0 c1 c2,st.mu=[.arr [aI c0,aI c1,aI c2]]/\∀ i (P:i<j),[c0,c1,c2][k-j+i]?=some ((digs N j r)[i]'(by rw[Zl];exact P))) k ?_ ?_
 .exact ⟨0,zOm,zOm,zSi,zSi,zSi,by simp[go_sem,divN],zSi,0,0,0,zSi,fun i P=>zOm⟩
 rintro m st ⟨j,rfl,hj,e1,p,R,e9,o,c0,c1,c2,hm,hc⟩;by_cases a8:j<k
 .obtain ⟨d,rfl⟩:∃ d:Nat,k=j+1+d:=⟨k-(j+1),zOm⟩
  have t:d=0\/d=1\/d=2:=zOm;have ex:(((j+1+d:Nat):Int)-1-j)=(d:Int):=zOm;rw[ex]at o;have T:=WH N r hp zOm j;have a9:(r:Int)<=8000:=zOm;have hq:(divN N r j).tdiv N=divN N r (j+1):=by rw[divN,Int.tdiv_eq_ediv_of_nonneg T.1]
  have C:(divN N r j).tmod N=divN N r j % N:=Int.tmod_eq_emod_of_nonneg T.1;have a6:=WH N r hp zOm (j+1);have w1:qw.wrap (divN N r (j+1))=divN N r (j+1):=zWr;have J:¬N=0:=zOm;have aa:(digs N (j+1) r)=(divN N r j % N) :: digs N j r:=p5 N j r;have a4:=Zl N j r;rcases t with t|t|t
  .have l:st.tm 10=aI 0:=by rw[o,t];rfl
   have U:qw.wrap (-1) = -1:=zWr;simp[go_sem,p,R,e9,l,hm,J,hq,C,w1,U];refine Keep.loop (j+1+d-(j+1)) zOm ⟨j+1,rfl,zOm,zS1 e1,zS1 p,zS1 R,zSi,by simp[go_sem];omega,divN N r j % N,c1,c2,zSi,fun i P=>?_⟩
   grind
  .have l:st.tm 10=aI 1:=by rw[o,t];rfl
   have U:qw.wrap (0)=0:=zWr;simp[go_sem,p,R,e9,l,hm,J,hq,C,w1,U];refine Keep.loop (j+1+d-(j+1)) zOm ⟨j+1,rfl,zOm,zS1 e1,zS1 p,zS1 R,zSi,by simp[go_sem];omega,c0,divN N r j % N,c2,zSi,fun i P=>?_⟩
   grind
  .have l:st.tm 10=aI 2:=by rw[o,t];rfl
   have U:qw.wrap (1)=1:=zWr;simp[go_sem,p,R,e9,l,hm,J,hq,C,w1,U];refine Keep.loop (j+1+d-(j+1)) zOm ⟨j+1,rfl,zOm,zS1 e1,zS1 p,zS1 R,zSi,by simp[go_sem];omega,c0,c1,divN N r j % N,zSi,fun i P=>?_⟩
   grind
 .have a5:j=k:=by omega
  subst a5;have hn:¬(j:Int)<=(j:Int)-1:=zOm;have h3:(j:Int)<=3:=zOm;simp[go_sem,e1,p,o,hm,hn,h3];have a4:=Zl N j r;have:=qhA (mu:=[.arr [aI c0,aI c1,aI c2]]) (b:=0) (cells:=[aI c0,aI c1,aI c2]) (ds:=digs N j r) rfl fun i P=>by
   have:=hc i zOm;rw[Nat.sub_self,yI]at this;rw[show [aI c0,aI c1,aI c2]=[c0,c1,c2].map aI from rfl,zj,this];rfl
  grind
def fitB(sc:Sc)(ds g:List Int):Bool:=allN (fun i=>decide (jQ sc (gI ds i)=gI g i)) g.length
theorem qhC(sc)(g:GSc sc)(ds j)(hl:ds.length=j.length)(U:j.length<=3)(hd:∀ d,d∈ds->0<=d/\d<=1000):qh qc 119 [eSc sc,lI ds,lI j] (aB (fitB sc ds j)):=by
 refine qSU call119 func119 rfl ?_;refine qn.up j.length (fun k st=>st.tm 1=lI ds/\st.tm 2=lI j/\st.tm 3 = .ip [lI sc.sC,aI sc.sN]/\st.tm 7=aI k/\∀ i,i<k->jQ sc (gI ds i)=gI j i) ?_ ?_
 .simp [go_sem]
 rintro k st hk ⟨J,r,P,p,hi⟩;by_cases l:k<j.length
 .have o:k<ds.length:=by omega
  have t:=hd ds[k] (qv o);obtain⟨d,C⟩:=Int.eq_ofNat_of_zero_le t.1;simp[go_sem,r,p,l];refine cN zKr ?_;simp[go_sem,J,P,p,o];have R:=qg9 sc g d zOm;rw[<-C]at R;refine cY R (.zk (zM _) (.zs .nil)) ?_;have g1:gI ds k=ds[k]:=vD o;have g2:gI j k=j[k]:=vD l;by_cases T:jQ sc ds[k]=j[k]
  .simp [go_sem,J,r,P,p,l,T]
   refine⟨zWr,fun i a0=>?_⟩;by_cases h:i=k
   .grind
   grind
  .have hf:fitB sc ds j=false:=qeY l (by grind)
   rw[hf];simp[go_sem,r,p,l,T];exact .zsc _
 .have I:k=j.length:=by omega
  subst I;have hf:fitB sc ds j=true:=JW.2 fun i h=>by grind
  rw[hf];simp[go_sem,r,p];exact .zsc _
theorem WI(n)(i:0<n)(g:n<=20):∀ k r,∀ d,d∈digs n k r->0<=d/\d<=1000
 | 0,_,d,h=>by simp[digs]at h
 |k+1,r,d,h=>by
  rw[digs,qI]at h;rcases h with h|h
  .exact WI n i g k _ d h
  .rw [qL]at h;subst h
   have j:=Int.emod_nonneg r (show n≠0 by omega);have l:=Int.emod_lt_of_pos r i;omega
def jr(sc:Sc)(g:List Int)(r:Nat):List Int:=((qq r).filter fun k:Nat=>fitB sc (digs (sumI sc.sC) g.length k) g).map fun k:Nat=>(k:Int)
theorem qhD(sc g r):jr sc g (r+1)=jr sc g r++(if fitB sc (digs (sumI sc.sC) g.length r) g then [(r:Int)] else []):=by
 unfold jr;rw[List.range_succ,List.filter_append,zF];by_cases h:fitB sc (digs (sumI sc.sC) g.length r) g=true<;>simp[h]
theorem Vo(sc g r):(jr sc g r).length<=r:=by
 grind [List.length_filter_le,fitB,digs,sumI,qq,List.length_range,jr]
theorem Yo(sc g r):(jr sc g r).Pairwise (·<·):=by
 unfold jr;rw[List.pairwise_map];exact(List.pairwise_lt_range.filter _).imp fun h=>zOm
def zT(sc:Sc)(g:List Int):List Int:=jr sc g (sumI sc.sC ^ g.length).toNat
theorem p6(sc)(g:GSc sc)(hp:0<sumI sc.sC)(i:List Int)(h1:1<=i.length)(h3:i.length<=3)(hs:∀ s,s∈i->0<=s/\s<sc.sC.length):qh qc 83 [eSc sc,lI i] (eRel ⟨i.length,zT sc i⟩):=by
 have C:=g.sum sc.sC.length;rw[za]at C;have a1:=Yn (sumI sc.sC) C.1 C.2 i.length h3;obtain⟨R,hR⟩:=Int.eq_ofNat_of_zero_le a1.1;have a2:zT sc i=jr sc i R:=by rw[zT,hR];rfl
 refine qSV call83 func83 rfl ?_;have n1:¬(i.length:Int)<1:=zOm;have n3:¬(3:Int)<(i.length:Int):=zOm;simp[go_sem,n1,n3];refine qn.up i.length (fun k st=>st.tm 1=lI i/\st.tm 2 = .ip [lI sc.sC,aI sc.sN]/\st.tm 4 = .ptr 0 0/\st.tm 5=aI i.length/\st.tm 6=aI k/\st.mu=[.arr [aI 0,.lst true []]]) ?_ ?_
 .simp [go_sem]
 rintro k st hk ⟨e1,p,e4,o,e6,hm⟩;by_cases l:k<i.length
 .have a4:=hs i[k] (qv l)
  have m1:¬i[k]<0:=zOm;have m2:¬(sc.sC.length:Int)<=i[k]:=zOm;simp[go_sem,o,e6,hm,l];refine cN zKr ?_;simp[go_sem,e1,p,e4,o,e6,l,m1,m2]
  grind [jb]
 have I:k=i.length:=zOm;subst I;simp[go_sem,o,e6,hm];refine cH (fun m st=>∃ k P j,m=R-k/\k<=R/\st.tm 1=lI i/\st.tm 2 = .ip [lI sc.sC,aI sc.sN]/\st.tm 4 = .ptr 0 0/\st.tm 5=aI i.length/\st.tm 7 = .ptr 1 0/\st.tm 8=aI (k:Nat) /\
  st.mu=[.arr [aI 0,.lst true []],.arr [aI i.length,P]]++j/\OwnF 2 ([.dead,.dead]++j) 1 P ((jr sc i k).map rI)) R ?_ ?_
 .exact ⟨0,.lst true [],[],zOm,zOm,zS1 e1,zS1 p,zS1 e4,zS1 o,zSi,zSi,zSi,by grind [jr,OwnF.nil]⟩
 rintro m st ⟨k,P,j,rfl,hk,e1,p,e4,o,e7,e8,hm,ho⟩;have ho:=ho.low (low:=[.dead,.dead]) (low':=[.arr [aI 0,.lst true []],.arr [aI i.length,P]]) rfl;simp[go_sem,p,o,e8,hm];refine cY (pX sc g i.length h3) (.zk (zM _) (.zs .nil)) ?_;rw[hR];by_cases l:k<R
 .simp [go_sem,p,o,e8,l]
  refine cY (qhB sc g hp i.length h3 k zOm) (.zk (zM _) (.zs (.zs .nil))) ?_;simp[go_sem,e1,p];refine cY (qhC sc g _ i (Zl _ _ _) h3 (WI _ hp zOm _ _)) (.zk (zM _) (.zk (qR _) (.zk (qR _) .nil))) ?_;have T:=qhD sc i k;have a5:=Vo sc i k;cases hb:fitB sc (digs (sumI sc.sC) i.length k) i with
  |false =>
   rw[hb]at T;simp[go_sem,e8];refine Keep.loop (R-(k+1)) zOm ⟨k+1,P,j,rfl,zOm,zS1 e1,zS1 p,zS1 e4,zS1 o,zS1 e7,?_,zSi,?_⟩
   .simp [go_sem];grind [jb]
   grind
  |true =>
   rw[hb]at T;simp[go_sem,e7,e8];refine fL (low:=[.arr [aI 0,.lst true []],.arr [aI i.length,P]]) (e:=3) (bt:=8) (z:=0) (xs:=jr sc i k) (ys:=[(k:Int)]) zSi zSi zSi zOm ho (by simp[qF]) zSo ?_;intro a3 U a0;simp[go_sem,e7,e8,a0.cells,a0.one];refine Keep.loop (R-(k+1)) zOm ⟨k+1,a3,U,rfl,zOm,zS1 e1,zS1 p,zS1 e4,zS1 o,zS1 e7,?_,zSi,?_⟩
   .simp [go_sem];grind [jb]
   .rw [T]
    simpa[go_sem] using a0.low (low':=[.dead,.dead]) rfl
 .have I:k=R:=by omega
  subst I;simp[go_sem,e4,e7,ho.one];rw[a2];exact Rd.rel (r:=⟨i.length,jr sc i k⟩) (ho.low (low:=[.arr [aI 0,.lst true []],.arr [aI i.length,P]]) (low':=[.arr [aI i.length,P],.arr [aI i.length,P]]) rfl).rdI
end G5
namespace GM
end GM
namespace GP
open P1 E3 GB G5
def js(g:List Bool)(lo:Rl)(q:List Int×Nat)(t:Int):List Int×Nat:=
 if t∈lo.ts then (q.1++[t],q.2) else (q.1++(if g.getD q.2 false=true then [t] else []),q.2+1)
def insF(g:List Bool)(lo:Rl)(ts:List Int)(n:Nat):List Int×Nat:=ts.foldl (js g lo) ([],n)
theorem qhE(g lo)(ts:List Int)(n k h):insF g lo (ts.take (k+1)) n=js g lo (insF g lo (ts.take k) n) ts[k]:=by
 rw[jx h,insF,Qi];rfl
theorem Vp(g lo):∀(ts:List Int)(q w),q.1.Sublist w->(ts.foldl (js g lo) q).1.Sublist (w++ts)
 | [],q,w,h=>zUs h
 |t :: ts,q,w,h=>by
  rw[List.foldl_cons,show w++t :: ts=(w++[t])++ts by simp];refine Vp g lo ts _ _ ?_;unfold js;split
  .exact h.append (List.Sublist.refl _)
  .split
   .exact h.append (List.Sublist.refl _)
   .exact h.append (List.nil_sublist _)
theorem WJ(g lo):∀(ts:List Int)(q),(ts.foldl (js g lo) q).2<=q.2+ts.length
 | [],q=>zSp
 |t :: ts,q=>by
  rw[List.foldl_cons];have:=WJ g lo ts (js g lo q t);have i:(js g lo q t).2<=q.2+1:=by unfold js;split<;>simp
  simp only[zC];omega
def insB(g:List Bool)(q:List Rl×Nat)(b:Bd):List Rl×Nat:=(q.1++[⟨b.up.ar,(insF g b.lo b.up.ts q.2).1⟩],(insF g b.lo b.up.ts q.2).2)
def yy(g:List Bd)(i:List Bool):List Rl×Nat:=g.foldl (insB i) ([],0)
def zX(g:List Bd)(i:List Bool):List Rl:=(yy g i).1
theorem p7(g:List Bd)(i k h):yy (g.take (k+1)) i=insB i (yy (g.take k) i) g[k]:=by
 rw[jx h,yy,Qi];rfl
theorem p8(g M):∀(i:List Bd)(q),(∀ b,b∈i->b.up.ts.length<=M)->(i.foldl (insB g) q).2<=q.2+i.length*M
 | [],q,_=>zSp
 |b :: i,q,h=>by
  rw[List.foldl_cons];have:=p8 g M i (insB g q b) fun x j=>h x (qB _ j)
  have l:(insB g q b).2<=q.2+M:=zS (WJ g b.lo b.up.ts _) (by grind);rw[zC,Nat.add_mul];omega
theorem WL(i):∀(g:List Bd)(q),(g.foldl (insB i) q).1.map Rl.ar=q.1.map Rl.ar++g.map fun b=>b.up.ar
 | [],q=>zSp
 |b :: g,q=>by rw[List.foldl_cons,WL i g];simp[insB]
theorem qhF(g i):(zX g i).map Rl.ar=g.map fun b=>b.up.ar:=by
 rw[zX,yy,WL];simp
theorem Zm(g i):(zX g i).length=g.length:=by
 rw[<-yi (f:=Rl.ar),qhF,yi]
def anyS(vs:List Bool)(i:List Bd)(g:List (List Bool))(s:Nat):List Rl:=
 if s=0 then zX i (g.getD 0 []) else (zX i (g.getD s [])).mapIdx fun f r=>if vs.getD f true=true then r else (zX i (g.getD 0 [])).getD f noR
def anyM(sc:Sc)(vs:List Bool)(i:List Bd)(g:List (List Bool))(loop:Int):Md:=⟨sc,(qq sc.sN.toNat).map (anyS vs i g),loop⟩
theorem p9(vs i g s):(anyS vs i g s).length=i.length:=by
 grind [anyS,Zm,List.length_mapIdx]
def defB(ts:TS)(sc:Sc):List Bd:=ts.sA.map fun f=>⟨⟨f.sS.length,[]⟩,⟨f.sS.length,zT sc f.sS⟩⟩
end GP
namespace GQ
open YF P1 E9 Q8
def jt(sc:Sc):Bool:=decide (sc.sC.length<=4)&&(decide (1<=sc.sN)&&(decide (sc.sN<=4)&&(sc.sC.all (fun a=>decide (1<=a)&&decide (a<=5))&&decide (sumI sc.sC<=12))))
theorem qhG{sc}(h:jt sc=true):GSc sc:=by
 simp only[jt,qu,decide_eq_true_eq,q8]at h;exact⟨h.1,fun a g=>by grind⟩
theorem qhH(sc):qh qc 103 [eSc sc] (aB (jt sc)):=by
 refine qSV call103 func103 rfl ?_;by_cases o:(4:Int)<sc.sC.length
 case pos =>
  simp[go_sem,o,jt,show ¬sc.sC.length<=4 by omega];exact .zsc _
 by_cases I:sc.sN<1
 case pos =>
  simp[go_sem,o,I,jt,show ¬ 1<=sc.sN by omega];exact .zsc _
 by_cases T:4<sc.sN
 case pos =>
  simp[go_sem,o,I,T,jt,show ¬sc.sN<=4 by omega];exact .zsc _
 simp[go_sem,o,I,T];refine qn.up sc.sC.length (fun k st=>st.tm 1 = .ip [lI sc.sC,aI sc.sN]/\st.tm 3=aI (sumI (sc.sC.take k))/\st.tm 4=aI k/\st.mu=[]/\0<=sumI (sc.sC.take k)/\sumI (sc.sC.take k)<=5*k/\∀(i:Nat)(h:i<sc.sC.length),i<k->1<=sc.sC[i]/\sc.sC[i]<=5) ?_ ?_
 .simp [go_sem,sumI]
 rintro k st hk ⟨p,J,r,t,s0,s1,U⟩;by_cases g:k<sc.sC.length
 .by_cases hb:sc.sC[k]<1\/5<sc.sC[k]
  .have:sc.sC.all (fun a=>decide (1<=a)&&decide (a<=5))=false:=Vj g zSo
   have:jt sc=false:=by simp only[jt,this,Bool.and_false,Bool.false_and]
   rw[this];by_cases j:sc.sC[k]<1
   .simp [go_sem,p,r,t,g,j]
    exact .zsc _
   .simp [go_sem,p,r,t,g,j,show 5<sc.sC[k] by omega]
    exact .zsc _
  .have hs:=uE sc.sC k g
   generalize hS:sumI (sc.sC.take k)=S at *
   simp[go_sem,p,J,r,t,g,hs,show ¬sc.sC[k]<1 by omega,show ¬ 5<sc.sC[k] by omega];refine⟨zWr,zWr,zOm,zOm,fun i h C=>?_⟩;rcases Nat.lt_succ_iff_lt_or_eq.1 C with P|P
   .exact U i h P
   .subst P;exact⟨zOm,zOm⟩
 .have R:k=sc.sC.length:=by omega
  subst R;rw[za]at J;have l:sc.sC.all (fun a=>decide (1<=a)&&decide (a<=5))=true:=by
   rw[Vi];intro i C;have:=U i C C;simp;omega
  simp[go_sem,p,J,r,t];simp only[jt,l,show sc.sC.length<=4 by omega,show 1<=sc.sN by omega,show sc.sN<=4 by omega];simp;exact .zsc _
theorem qhI(ts sc):qh qc 74 [eTS ts,eSc sc] (aB (decide (ts.sS.length=sc.sC.length)&&jt sc)):=by
 refine qSV call74 func74 rfl ?_;by_cases h:ts.sS.length=sc.sC.length
 .simp [go_sem,h]
  refine fY (qhH sc) (.zk (zM sc) .nil) ?_;exact .zsc _
 .simp [go_sem,h]
  exact .zsc _
def yQ(ts:TS)(sc:Sc):Bool:=decide (1<=ts.sS.length)&&(decide (ts.sS.length<=4)&&(decide (ts.sA.length<=6)&&(decide (sc.sC.length<=4)&&(ts.sA.all (fldB ts.sS.length)&&(decide (ts.sS.length=sc.sC.length)&&jt sc)))))
theorem qhJ(ts sc):qh qc 35 [eTS ts,eSc sc] (aB (yQ ts sc)):=by
 refine qSV call35 func35 rfl ?_;by_cases I:ts.sS.length=0
 case pos =>
  have hf:yQ ts sc=false:=by grind [yQ]
  rw[hf];simp[go_sem,I];exact .zsc _
 by_cases T:(4:Int)<ts.sS.length
 case pos =>
  have hf:yQ ts sc=false:=by grind [yQ]
  rw[hf];simp[go_sem,I,T];exact .zsc _
 by_cases U:(6:Int)<ts.sA.length
 case pos =>
  have hf:yQ ts sc=false:=by grind [yQ]
  rw[hf];simp[go_sem,I,T,U];exact .zsc _
 by_cases h3:(4:Int)<sc.sC.length
 case pos =>
  have hf:yQ ts sc=false:=by grind [yQ]
  rw[hf];simp[go_sem,I,T,U,h3];exact .zsc _
 simp[go_sem,I,T,U,h3];refine aC ts.sA.length (fun k st=>st.tm 2 = .ip (cTS ts)/\st.tm 3 = .ip [lI sc.sC,aI sc.sN]/\st.tm 5=aI k/\∀(j:Nat)(h:j<ts.sA.length),j<k->fldB ts.sS.length ts.sA[j]=true) ?_ ?_
 .simp [go_sem, *]
 rintro k st hk ⟨p,J,r,hI⟩;by_cases o:k<ts.sA.length
 .have w1:=zWk k
  have l:fldB ts.sS.length ts.sA[k]=false->yQ ts sc=false:=fun hb=>by
   simp only[yQ,Vj o hb,Bool.and_false,Bool.false_and]
  by_cases l1:(ts.sA[k].sS.length:Int)<1
  .rw [l (by grind [fldB])]
   simp[go_sem,p,r,o,l1];exact .zsc _
  by_cases l3:(3:Int)<ts.sA[k].sS.length
  .rw [l (by grind [fldB])]
   simp[go_sem,p,r,o,l1,l3];exact .zsc _
  simp[go_sem,p,r,o,l1,l3];refine aC ts.sA[k].sS.length (fun j st=>st.tm 2 = .ip (cTS ts)/\st.tm 3 = .ip [lI sc.sC,aI sc.sN]/\st.tm 5=aI k/\st.tm 6=lI ts.sA[k].sS/\st.tm 7=aI j/\∀(i:Nat)(h:i<ts.sA[k].sS.length),i<j->0<=ts.sA[k].sS[i]/\ts.sA[k].sS[i]<ts.sS.length) ?_ ?_
  .simp [go_sem, *]
  clear p J r st;rintro j st hj ⟨p,J,r,C,P,hJ⟩;by_cases g:j<ts.sA[k].sS.length
  .have w2:=zWk j
   simp[go_sem,C,P,g];refine cN zKr ?_;by_cases q1:ts.sA[k].sS[j]<0
   .rw [l (by rw[fldB,Vj g zSo,Bool.and_false])]
    simp[go_sem,C,P,g,q1];exact .zsc _
   by_cases q2:(ts.sS.length:Int)<=ts.sA[k].sS[j]
   .rw [l (by rw[fldB,Vj g zSo,Bool.and_false])]
    simp[go_sem,p,C,P,g,q1,q2];exact .zsc _
   simp[go_sem,p,C,P,g,q1,q2,w2]
   try refine⟨g,aP ?_⟩
   try refine aP ?_
   refine⟨zS1 p,zS1 J,zS1 r,zS1 C,zSi,fun i h hi=>?_⟩
   grind
  .have t:j=ts.sA[k].sS.length:=by omega
   simp[go_sem,r,C,P,t,w1]
   try refine⟨o,aP ?_⟩
   try refine aP ?_
   refine⟨zS1 p,zS1 J,zSi,fun i h hi=>?_⟩;by_cases a0:i=k
   .subst a0
    have:ts.sA[i].sS.all (fun x=>decide (0<=x)&&decide (x<ts.sS.length))=true:=Vi.2 fun a ha=>by
     grind
    simp only[fldB,this,Bool.and_true,qu,decide_eq_true_eq];omega
   grind
 .have t:k=ts.sA.length:=by omega
  have R:ts.sA.all (fldB ts.sS.length)=true:=Vi.2 fun i h=>hI i h zOm
  simp[go_sem,p,J,r,t];refine fY (qhI ts sc) (.zk (zt ts) (.zk (zM sc) .nil)) ?_;have hf:yQ ts sc=(decide (ts.sS.length=sc.sC.length)&&jt sc):=by
   simp only[yQ,R,show 1<=ts.sS.length by omega,show ts.sS.length<=4 by omega,show ts.sA.length<=6 by omega,show sc.sC.length<=4 by omega];simp
  rw[hf];exact .zsc _
end GQ
namespace GR
open YF P1 E1 E4 EO EP F4 Q8 G5 GP GQ
section
variable {xs:List (List AV)}{mu:Mu}{sz:Nat}
theorem yB.ownB{P}{t g e bt:Nat}{s x ys zv K}(T:qA P t=some (e,sz,bt))(j:(qA P g).isSome=true)(U:qz P e=some zv)
  (o:zv.cells.length=sz) (p:zv.cells.all AV.one=true) (r:sz≠0) (hb:bt<=16384) (ho:Own mu sz s xs) (hx:qF mu x=some ys) (J:zb sz xs) (wy:zb sz ys) (R:xs.length+ys.length<=4294967296)
  (k:∀ av l,Own l sz av (xs++ys)->(∀ i,i<mu.length->qr s≠some i->l[i]?=mu[i]?)->(∀ b,qr av=some b->b=mu.length)->mu.length<=l.length->(ys≠[]->∃ b,qr av=some b)->K av l):yB P mu #[t,g] s x K:=by
 refine⟨t,g,e,sz,bt,ys,rfl,T,j,⟨zv,U,o,p⟩,r,hb,hx,wy,?_⟩;rcases ho with rfl|⟨b,rfl,hc⟩
 .refine .inl ⟨xs,rfl,J,R,fun h=>?_,fun h=>?_⟩
  .subst h
   exact k _ _ (.inl zSp) (fun _ _ _=>rfl) (fun b h=>by cases h) (qs _) (fun h=>absurd rfl h)
  .refine k _ _ (.inr ⟨mu.length,zSp,zSp⟩) (fun i C _=>?_) (fun b h=>by cases h;rfl) zSp (fun _=>⟨_,rfl⟩)
   rw[ze C]
 .have a0:=yc J.ok
  refine .inr ⟨b,xs.length,xs.flatten,rfl,hc,zOm,R,?_⟩;have a1:xs.flatten.take (xs.length*sz)=xs.flatten:=zn zOm;refine k _ _ (.inr ⟨mu.length,zSp,?_⟩) (fun i C I=>?_) (fun b h=>by cases h;rfl) zSp (fun _=>⟨_,rfl⟩)
  .grind
  .rw [ze (zUs C)]
   rw[jV (fun e=>I (by rw[e];rfl))]
theorem aY{P}{t t' e bt:Nat}{s y}(j){zv full K}(R)(hs:qA P t=some (e,sz,bt))(p:(qA P t').isSome=true)(hz:qz P e=some zv)
  (r:zv.cells.length=sz) (C:zv.cells.all AV.one=true) (I:sz≠0) (o:bt<=16384) (ho:Own mu sz s xs) (J:∀ b,qr s=some b->b<R) (T:Rds (cutM (fun i=>decide (R<=i)) mu 0) y j) (wx:zb sz xs) (wy:zb sz [j]) (hl:xs.length+1<=4294967296)
  (k:∀ av l,Own l sz av (xs++[j])->(∀ i,i<mu.length->i<R->qr s≠some i->l[i]?=mu[i]?)->(∀ b,qr av=some b->b=mu.length)->mu.length<=l.length->(∃ b,qr av=some b)->K av l):qD P mu #[t,t'] s (.lst full [y]) K:=by
 have cg:∀ i,i<R->(cutM (fun i=>!decide (R<=i)) mu 0)[i]?=mu[i]?:=fun i hi=>by
  simp_all[j6,yI,decide_eq_false,Bool.not_false,if_true]
 have g:Rd (cutM (fun i=>decide (R<=i)) mu 0) (.lst full [y]) (.lst full [j]):=by
  obtain⟨h1,h2⟩:=T.get;refine .lst full _ _ rfl (fun k a b ha o=>?_) (fun k a b ha o=>?_)
  .grind
  grind
 have U:Own (cutM (fun i=>!decide (R<=i)) mu 0) sz s xs:=by
  rcases ho with h|⟨b,h,hc⟩
  .exact .inl h
  .exact .inr ⟨b,h,by rw[cg b (J b (by rw[h];rfl))];exact hc⟩
 refine .inr (.inl ⟨_,_,g,yB.ownB hs p hz r C I o U rfl wx wy hl fun av l h1 h2 h3 h4 h5=>k av l h1 (fun i hi hR a0=>?_) (fun b o=>?_) ?_ (h5 zSp)⟩)
 .grind
 .grind [wI]
 grind [wI]
theorem WM{C:Type}{f g}:∀{l:List C},(∀ a,a∈l->Rds mu (f a) (g a))->∀(k:Nat) x y,(l.map f).flatten[k]?=some x->(l.map g).flatten[k]?=some y->Rd mu x y
 | [],_,k,x,y,i,_=>by simp at i
 |a :: l,h,k,x,y,i,j=>by
  obtain⟨o,p⟩:=(h a (qN ..)).get;simp only[List.map_cons,List.flatten_cons]at i j;by_cases r:k<(f a).length
  .rw [ze r]at i
   rw[zGa]at j;exact p k x y i j
  .rw [zK zOm]at i
   rw[zK zOm,o]at j;exact WM (fun b t=>h b (qB _ t)) _ x y i j
theorem aH{C:Type}{av f g}{l:List C}(h:Own mu sz av (l.map f))(wf:yd sz (l.map f))(j:yd sz (l.map g))(p:∀ a,a∈l->Rds mu (f a) (g a)):Rd mu av (.lst false (l.map g)):=by
 rcases h with rfl|⟨b,rfl,r⟩
 .refine .wk _ true _ (.lst true _ _ zSp (fun k x y i o=>?_) (WM p))
  rw[wf x (zh i),j y (zh o)]
 .refine .sl b sz 0 _ _ _ r (zW1 (yc wf)) zSp j (fun k x y i o=>?_)
  rw[yI]at i
  grind [WM]
theorem ge:∀{l},l≠[]->(∀ a,a∈l->1<=a)->1<=sumI l
 | [],h,_=>absurd rfl h
 | [a],_,h=>by simp_all[sumI]
 |a :: b :: l,_,h=>by
  have j:=h a zSp;have g:=ge (l:=b :: l) zSp fun x i=>h x (qB _ i)
  simp only[sumI,List.foldr_cons]at g⊢;omega
structure Fit9 (ts:TS) (sc:Sc):Prop where
 g:GSc sc
 p:0<sumI sc.sC
 nf:ts.sA.length<=6
 ns:ts.sS.length=sc.sC.length
 s1:1<=sc.sN
 s4:sc.sN<=4
 f1:∀ f,f∈ts.sA->1<=f.sS.length/\f.sS.length<=3
 fs:∀ f,f∈ts.sA->∀ s,s∈f.sS->0<=s/\s<sc.sC.length
theorem gg{ts sc}(h:yQ ts sc=true):Fit9 ts sc:=by
 simp only[yQ,qu,decide_eq_true_eq,q8,fldB]at h;obtain⟨t,C,j,I,o,p,i⟩:=h;have g:=qhG i;simp only[jt,qu,decide_eq_true_eq,q8]at i;refine⟨g,?_,j,p,i.2.1,i.2.2.1,fun f hf=>(o f hf).1,fun f hf s J=>?_⟩
 .have:=ge (l:=sc.sC) (fun e=>by grind) fun a r=>(i.2.2.2.1 a r).1
  omega
 grind
def rowD(sc:Sc)(f:Fld):List AV:=[aI f.sS.length,.lst true [],aI f.sS.length,lI (zT sc f.sS)]
theorem wr(sc)(l:List Fld):zb 4 (l.map (rowD sc)):=fun r g=>by
 obtain⟨n,_,rfl⟩:=qp.1 g;exact⟨rfl,rfl⟩
theorem qhK(ts sc)(F:Fit9 ts sc):qh qc 42 [eTS ts,eSc sc] (lBd (defB ts sc)):=by
 have a0:=F.nf;refine qSU call42 func42 rfl ?_;refine aC ts.sA.length (fun k st=>st.tm 2 = .ip (cTS ts)/\st.tm 3 = .ip [lI sc.sC,aI sc.sN]/\st.tm 6=aI k/\Own st.mu 4 (st.tm 5) ((ts.sA.take k).map (rowD sc))) ?_ ?_
 .exact ⟨zSi,zSi,zSi,.inl zSi⟩
 rintro k st hk ⟨t,U,C,I⟩;by_cases i:k<ts.sA.length
 .have w1:=zWk k
  have j:=qv i;have o:=p6 sc F.g F.p ts.sA[k].sS (F.f1 _ j).1 (F.f1 _ j).2 (F.fs _ j);simp[go_sem,t,C,i];refine cN zKr ?_;simp[go_sem,t,U,C,i];refine fY o (.zk (zM _) (.zk (qR _) .nil)) ?_;refine qD.ownB (e:=96) (sz:=4) (bt:=64) (zv := .agg [aI 0,.lst true [],aI 0,.lst true []]) (xs:=(ts.sA.take k).map (rowD sc)) (ys:=[rowD sc ts.sA[k]]) zSi zSi zSi rfl rfl zOm zOm I (by simp[qF,rowD]) (wr sc _) (wr sc [_]) zSo ?_;intro a1 l P _ _ _;simp[go_sem,C,i,w1];refine aP ⟨zS1 t,zS1 U,zSi,?_⟩;rw[Zg i,zF];simpa[go_sem] using P
 .have R:k=ts.sA.length:=by omega
  subst R;rw[za]at I;simp[go_sem,t,C];have:=aH (g:=fun f=>cBd ⟨⟨f.sS.length,[]⟩,⟨f.sS.length,zT sc f.sS⟩⟩) I (wr sc _).ok (fun r T=>by
   obtain⟨n,_,rfl⟩:=qp.1 T;rfl) fun f _=>⟨.hf _ (HF.sc _),.wk _ true _ (.hf _ (HF.lst fun r T=>by simp at T)),.hf _ (HF.sc _),.hf _ (qR _),trivial⟩
  show Rd _ _ (.lst false ((defB ts sc).map cBd));rw[defB,List.map_map];exact this
structure WN (b:Bd):Prop where
 u:b.up.ts.length<=100000
 l:b.lo.ts.length<=100000
 s:sorted b.lo.ts
theorem qhL(g t lo):inOk ⟨g,[t]⟩ lo=decide (t∈lo.ts):=by simp[inOk]
theorem Vq{R av}(h:Own mu sz av xs)(g:∀ b,qr av=some b->R<=b):Own (cutM (fun i=>decide (R<=i)) mu 0) sz av xs:=by
 rcases h with h|⟨b,h,j⟩
 .exact .inl h
 .refine .inr ⟨b,h,?_⟩
  rw[j6,j];simp[g b (by rw[h];rfl)]
theorem qhM(fl g C mu)(hl:g.length<=1000)(hb:∀ b,b∈g->WN b) :
  qU qc 44 [lBd g,.lst fl (C.map rB)] mu (fun e m=>∃ av,e = .ret av/\Own m 2 av ((zX g C).map cRel)/\(∀ i,i<mu.length->m[i]?=mu[i]?)/\(∀ b,qr av=some b->mu.length<=b)/\mu.length<=m.length/\(0<g.length->∃ b,qr av=some b)):=by
 refine qSW call44 func44 rfl {} ?_;simp[go_sem];refine aC g.length (fun k st=>st.tm 0=lBd g/\st.tm 1 = .lst fl (C.map rB)/\st.tm 6=aI (yy (g.take k) C).2/\st.tm 7=aI k/\Own st.mu 2 (st.tm 5) ((yy (g.take k) C).1.map cRel)/\(∀ i,i<mu.length->st.mu[i]?=mu[i]?)/\(∀ b,qr (st.tm 5)=some b->mu.length<=b)/\mu.length<=st.mu.length/\(0<k->∃ b,qr (st.tm 5)=some b)) ?_ ?_
 .exact ⟨zSi,zSi,by simp[go_sem,yy],zSi,.inl (by simp[go_sem,yy]),zSi,by simp[go_sem,qr],zSi,fun h=>absurd h zOm⟩
 rintro k st hk ⟨U,e1,e6,e7,ho,hs,ae,ag,ah⟩;by_cases t:k<g.length
 .have w1:=zWk k
  obtain⟨bu,bl,ai⟩:=hb _ (qv t);have b2:=p8 C 100000 (g.take k) ([],0) fun x hx=>(hb x (ja hx)).u
  have au:(yy (g.take k) C).2<=100000000:=by
   grind [List.length_take_le,Nat.mul_le_mul_right,yy]
  have a3:=p7 g C k t;generalize hq:yy (g.take k) C=q at *
  generalize aj:st.tm 5=s at *
  have af:∀ b,qr s=some b->b<st.mu.length:=fun b h=>Own.lt ho h
  generalize hR:st.mu.length=R at *
  simp[go_sem,U,e7,t];refine aC g[k].up.ts.length (fun j st2=>st2.tm 0=lBd g/\st2.tm 1 = .lst fl (C.map rB)/\st2.tm 5=s/\st2.tm 7=aI k/\st2.tm 8 = .ptr R 0/\st2.tm 9=aI j/\st2.tm 6=aI (insF C g[k].lo (g[k].up.ts.take j) q.2).2 /\
   ∃ av,st2.mu[R]?=some (.arr [aI g[k].up.ar,av])/\Own st2.mu 1 av ((insF C g[k].lo (g[k].up.ts.take j) q.2).1.map rI)/\(∀ b,qr av=some b->R<b)/\(∀ i,i<R->st2.mu[i]?=st.mu[i]?)) ?_ ?_
  .exact ⟨zS1 U,zS1 e1,zS1 aj,zS1 e7,zS1 hR,zSi,by simp[go_sem,e6,insF],.lst true [],zS1 hR,.inl (by simp[insF]),by simp[qr],fun i hi=>by simp[go_sem, *]⟩
  clear U e1 e6 e7;rintro j st2 hj ⟨U,e1,e5,e7,e8,e9,e6,av,a0,a1,ab,a6⟩;by_cases I:j<g[k].up.ts.length
  .have w2:=zWk j
   have b3:=WJ C g[k].lo (g[k].up.ts.take j) ([],q.2);have aw:(insF C g[k].lo (g[k].up.ts.take j) q.2).2<=100100000:=by
    grind [List.length_take_le,insF]
   have ax:=(Vp C g[k].lo (g[k].up.ts.take j) ([],q.2) [] (List.Sublist.refl _)).length_le;have ay:(insF C g[k].lo (g[k].up.ts.take j) q.2).1.length<=100000:=by
    grind [List.length_take_le,insF]
   have a7:=qhE C g[k].lo g[k].up.ts q.2 j I;generalize hp:insF C g[k].lo (g[k].up.ts.take j) q.2=p at *
   have w3:qw.wrap ((p.2:Int)+1)=(p.2:Int)+1:=zWr;have ak:R<st2.mu.length:=(qi.1 a0).1;have az:qr av≠some st2.mu.length:=fun h=>zW1 (Own.lt a1 h)
   have b0:qr av≠some R:=fun h=>by grind
   have a2:∀ c,(st2.mu++[c])[R]?=some (.arr [aI g[k].up.ar,av]):=fun c=>by grind
   have a4:=in06 ⟨g[k].up.ar,[g[k].up.ts[j]]⟩ g[k].lo zSp zOm ai;rw[qhL]at a4;have a8:WKs [.agg [aI g[k].up.ar,.lst true [[aI g[k].up.ts[j]]]],eRel g[k].lo] [eRel ⟨g[k].up.ar,[g[k].up.ts[j]]⟩,eRel g[k].lo] := .cons (WK.aggs (.zs (.cons (WK.ints [g[k].up.ts[j]]) .nil))) (.zk (Q0 _) .nil);have aa:∀(K:AV->Mu->Prop),(∀ T l,Own l 1 T ((p.1++[g[k].up.ts[j]]).map rI)->l[R]?=some (.arr [aI g[k].up.ar,av])->(∀ b,qr T=some b->R<b)->(∀ i,i<R->l[i]?=st.mu[i]?)->K T l)->qD qc (st2.mu++[.arr [aI g[k].up.ar,.lst true [[aI g[k].up.ts[j]]]]]) #[28,28] av (.lst true [[aI g[k].up.ts[j]]]) K:=fun K hK=>by
    refine qD.ownB (e:=3) (sz:=1) (bt:=8) (zv:=aI 0) (xs:=p.1.map rI) (ys:=[rI g[k].up.ts[j]]) zSi zSi zSi rfl rfl zOm zOm (Own.push a1 _) (by simp[qF]) (zJ _) (zJ [_]) zSo ?_
    grind
   by_cases P:g[k].up.ts[j]∈g[k].lo.ts
   .have o:insF C g[k].lo (g[k].up.ts.take (j+1)) q.2=(p.1++[g[k].up.ts[j]],p.2):=by rw[a7,js,if_pos P]
    simp[go_sem,U,e7,e8,e9,t,I,a0];refine cN zKr ?_;simp[go_sem,U,e7,t];refine cY a4 a8 ?_;simp[go_sem,e8,a2,P];refine aa _ fun T l h1 h2 h3 h4=>?_
    simp[go_sem,e8,e9,I,h2,w2,Own.one h1,Own.cells h1]
    try refine⟨I,aP ?_⟩
    try refine aP ?_
    refine⟨zS1 U,zS1 e1,zS1 e5,zS1 e7,zS1 e8,zSi,zS2 e6 o,T,by simp[go_sem,(qi.1 h2).1],?_,h3,fun i hi=>?_⟩
    .rw [o]
     simpa[go_sem] using Own.set h1 (.arr [aI g[k].up.ar,T]) (fun h=>by grind)
    .simp [go_sem]
     grind
   .by_cases a5:p.2<C.length
    .cases a9:C[p.2] with
     |true =>
      have o:insF C g[k].lo (g[k].up.ts.take (j+1)) q.2=(p.1++[g[k].up.ts[j]],p.2+1):=by rw[a7,js,if_neg P,zf,qx a5,a9];rfl
      simp[go_sem,U,e7,e8,e9,t,I,a0];refine cN zKr ?_;simp[go_sem,U,e7,t];refine cY a4 a8 ?_;simp[go_sem,e1,e8,e6,a2,P,a5,a9];refine aa _ fun T l h1 h2 h3 h4=>?_
      simp[go_sem,e8,e9,e6,I,h2,w2,w3,Own.one h1,Own.cells h1]
      try refine⟨I,aP ?_⟩
      try refine aP ?_
      refine⟨zS1 U,zS1 e1,zS1 e5,zS1 e7,zS1 e8,zSi,zS1 o,T,by simp[go_sem,(qi.1 h2).1],?_,h3,fun i hi=>?_⟩
      .rw [o]
       simpa[go_sem] using Own.set h1 (.arr [aI g[k].up.ar,T]) (fun h=>zW1 (h3 R h))
      .simp [go_sem]
       rw[zGl];exact h4 i hi
     |false =>
      have o:insF C g[k].lo (g[k].up.ts.take (j+1)) q.2=(p.1,p.2+1):=by rw[a7,js,if_neg P,zf,qx a5,a9];simp
      simp[go_sem,U,e7,e8,e9,t,I,a0];refine cN zKr ?_;simp[go_sem,U,e7,t];refine cY a4 a8 ?_;simp[go_sem,e1,e9,e6,I,P,a5,a9,w2,w3]
      try refine⟨I,aP ?_⟩
      try refine aP ?_
      refine⟨zS1 U,zS1 e1,zS1 e5,zS1 e7,zS1 e8,zSi,zS1 o,av,zS1 a2,?_,ab,fun i hi=>?_⟩
      .rw [o];simpa[go_sem] using Own.push a1 _
      .simp [go_sem];rw[zGa];exact a6 i hi
    .have o:insF C g[k].lo (g[k].up.ts.take (j+1)) q.2=(p.1,p.2+1):=by rw[a7,js,if_neg P,zf,jG zOm];simp
     simp[go_sem,U,e7,e8,e9,t,I,a0];refine cN zKr ?_;simp[go_sem,U,e7,t];refine cY a4 a8 ?_;simp[go_sem,e1,e9,e6,I,P,a5,w2,w3]
     try refine⟨I,aP ?_⟩
     try refine aP ?_
     refine⟨zS1 U,zS1 e1,zS1 e5,zS1 e7,zS1 e8,zSi,zS1 o,av,zS1 a2,?_,ab,fun i hi=>?_⟩
     .rw [o];simpa[go_sem] using Own.push a1 _
     .simp [go_sem];rw[zGa];exact a6 i hi
  .have ad:j=g[k].up.ts.length:=by omega
   subst ad;rw[za]at e6 a1;have b1:=Vp C g[k].lo g[k].up.ts ([],q.2) [] (List.Sublist.refl _);have b4:q.1.length=k:=by
    rw[<-hq];have:=congrArg List.length (WL C (g.take k) ([],0));simp at this;show (yy (g.take k) C).1.length=k;rw[yy,this];omega
   simp[go_sem,U,e5,e7,e8,e9,t,a0,Own.one a1];refine aY (e:=62) (sz:=2) (bt:=32) (zv := .agg [aI 0,.lst true []]) (xs:=q.1.map cRel) (cRel ⟨g[k].up.ar,(insF C g[k].lo g[k].up.ts q.2).1⟩) R zSi zSi zSi rfl rfl zOm zOm ?_ af ?_ (vY _) (vY [_]) zSo ?_
   .rcases ho with h|⟨b,h,hc⟩
    .exact .inl h
    .refine .inr ⟨b,h,?_⟩
     rw[a6 b (af b (by rw[h];rfl))];exact hc
   .refine ⟨.hf _ (HF.sc _),?_,trivial⟩
    exact Own.rd (Vq a1 fun b h=>zW1 (ab b h)) (zJ _).ok fun r hr c hc=>by
     obtain⟨n,_,rfl⟩:=qp.1 hr;simp at hc;subst hc;exact HF.sc _
   intro T l al an ao b5 aq;have ak:R<st2.mu.length:=(qi.1 a0).1;simp[go_sem,e7,t,w1]
   try refine⟨t,aP ?_⟩
   try refine aP ?_
   refine⟨zS1 U,zS1 e1,by simp[go_sem,e6,a3,insB],zSi,?_,fun i hi=>?_,fun b h=>?_,by simp[go_sem];omega,fun _=>by simp[go_sem];exact aq⟩
   .rw [a3,insB,zF]
    simpa[go_sem] using al
   .simp [go_sem]
    rw[an i zOm zOm (fun h=>zW1 (ae i h)),a6 i zOm];exact hs i hi
   .simp [go_sem]at h
    have:=ao b h;omega
 .have ad:k=g.length:=by omega
  subst ad;rw[za]at ho e6;simp[go_sem,U,e7];exact⟨ho,hs,ae,ag,ah⟩
end
end GR
namespace JG
open Y1 YF GH JE JF
def nF:Nd := .mk 1 (bA [102]) 0 [] 0
theorem tabOf{E}(g:qV qc E)(n){f l}(h:l.all (fun p=>eqLi (eqV 64) (p.1.map (nV 64)) p.1&&Ym E n f p.1 p.2)=true):jp qc f (jC (tabX l)):=by
 refine Z8 (Z9 fun p i=>?_);have:=q8.1 h p i;rw[qu]at this;rw[uB (fun a b=>Qz) this.1];exact wq g this.2
theorem Yp{f l}(h:l.all (fun p=>eqLi (eqV 64) (p.1.map (nV 64)) p.1)=true)(i:∀ p,p∈l->qh qc f p.1 p.2):jp qc f (jC (tabX l)):=by
 refine Z8 (Z9 fun p g=>?_);rw[uB (fun a b=>Qz) (q8.1 h p g)];exact i p g
theorem Qb{l f h}(i:∀ p,p∈l->jp qc p.1 p.2)(j:jp qc f h):∀ p,p∈(f,h) :: l->jp qc p.1 p.2:=fun p g=>by
 rcases ql.1 g with rfl|g
 .exact j
 .exact i p g
theorem instH:qh qc 158 [eTS tsH,eSc scH,lBd bsH] (.tup [lMd (jE inH csH 1),aI 0]):=
 qg5 tsH scH bsH csH inH 1 rfl zOm (by
  intro r g;simp[csH]at g;rcases g with rfl|rfl|rfl<;>exact⟨rfl,rfl,fun x i=>by simp only[ql,qG,or_false]at i;rcases i with rfl|rfl|rfl<;>exact HF.sc _⟩) zDe zDe zDe uvH bvH chH fun k l c j=>by
   obtain rfl:k=0:=zOm;exact qg8 c j
def insT:List (List AV×AV):=[([eTS tsH,eSc scH,lBd bsH],.tup [lMd (jE inH csH 1),aI 0])]
theorem qhN:∀ p,p∈H0->jp qc p.1 p.2:=fun p g=>by
 simp only[H0,ql,qG,or_false]at g;rcases g with rfl|rfl|rfl
 .exact ua.1 _ _ zKr
 .exact ua.1 _ _ zKr
 .exact ua.1 _ _ zKr
end JG
namespace GS
open P1 E1 EO F4 GB G5 GP GR
abbrev rBs(l:List Bool):List AV:=[lB l]
abbrev lBB(l:List (List Bool)):AV := .lst false (l.map rBs)
theorem hf_lB(l):HF (lB l):=HF.lst fun r i c g=>by
 obtain⟨n,_,rfl⟩:=qp.1 i;simp at g;subst g;exact HF.sc _
theorem WO(l):HF (lBB l):=HF.lst fun r i c g=>by
 obtain⟨n,_,rfl⟩:=qp.1 i;simp at g;subst g;exact hf_lB n
theorem WP{ts sc}(F:Fit9 ts sc)(j:sumI sc.sC<=5):∀ b,b∈defB ts sc->b.up.ts.length<=1000/\b.up.ts.Pairwise (·<·)/\WN b:=fun b g=>by
 obtain⟨f,hf,rfl⟩:=qp.1 g;have l:=(F.f1 f hf).2;have o:=F.p;have i:(zT sc f.sS).length<=1000:=by
  refine zS (Vo _ _ _) ?_;have:sumI sc.sC ^ f.sS.length<=125:=by
   rcases (show f.sS.length=0\/f.sS.length=1\/f.sS.length=2\/f.sS.length=3 by omega) with e|e|e|e<;>rw[e]<;>rcases (show sumI sc.sC=1\/sumI sc.sC=2\/sumI sc.sC=3\/sumI sc.sC=4\/sumI sc.sC=5 by omega) with d|d|d|d|d<;>rw[d]<;>decide
  omega
 exact⟨i,Yo _ _ _,zSo,zSp,by simp[sorted]⟩
def fixS(vs:List Bool)(g i:List Rl)(j:Nat):List Rl:=i.mapIdx fun f r=>if f<j/\vs.getD f true=false then g.getD f noR else r
theorem qhO(vs i g):fixS vs i g 0=g:=by
 refine zZ fun f=>?_
 simp[fixS]
theorem qhP(vs i g j):(fixS vs i g j).length=g.length:=by simp[fixS]
theorem qhQ(vs l g j)(h:j<g.length):fixS vs l g (j+1)=if vs.getD j true=false then (fixS vs l g j).set j (l.getD j noR) else fixS vs l g j:=by
 refine zZ fun f=>?_
 by_cases i:vs.getD j true=false
 .rw [if_pos i,List.getElem?_set]
  simp only[fixS,List.getElem?_mapIdx,List.length_mapIdx];by_cases hf:j=f
  .subst hf
   rw[if_pos rfl,if_pos h,qx h];simp only[qZ,Nat.lt_succ_self,i,and_self,if_true]
  .rw [if_neg hf]
   cases g[f]? with
   |none=>rfl
   |some r=>simp only[qZ];congr 1;by_cases o:f<j<;>simp[o,show (f<j+1)=(f<j) by simp;omega]
 .rw [if_neg i]
  simp only[fixS,List.getElem?_mapIdx];cases g[f]? with
  |none=>rfl
  |some r =>
   simp only[qZ];congr 1;by_cases hf:f=j
   .subst hf;rw[if_neg (fun h=>i h.2),if_neg (fun h=>i h.2)]
   .by_cases o:f<j<;>simp[o,show (f<j+1)=(f<j) by simp;omega]
theorem qhR(vs i g k)(h:k≠0):anyS vs i g k=fixS vs (zX i (g.getD 0 [])) (zX i (g.getD k [])) i.length:=by
 rw[anyS,if_neg h];refine zZ fun f=>?_
 simp only[fixS,List.getElem?_mapIdx];cases l:(zX i (g.getD k []))[f]? with
 |none=>rfl
 |some r =>
  have j:=(qi.1 l).1;rw[Zm]at j;simp only[qZ];congr 1;cases vs.getD f true<;>simp[j]
theorem Own.put{sz}{mu:Mu}{av xs b}(h:av = .sl b sz 0 xs.length)(g:mu[b]?=some (.arr xs.flatten))(w:yd sz xs){i r}(j:r.length=sz)(l:i<xs.length):Own (mu.set b (.arr (qQ xs.flatten (i*sz) r))) sz av (xs.set i r):=by
 refine .inr ⟨b,by rw[List.length_set];exact h,?_⟩;rw[List.getElem?_set_self (qi.1 g).1,Jk xs i r w j l]
abbrev vsT(ts:TS):List Bool:=ts.sA.map fun f=>f.var
end GS
namespace GU
open E1 E3 GF
abbrev Ch:=Int×Int×Int
abbrev rC(c:Ch):List AV:=[aI c.1,aI c.2.1,aI c.2.2]
theorem WQ(l:List Ch):zb 3 (l.map rC):=fun r g=>by
 obtain⟨n,_,rfl⟩:=qp.1 g;exact⟨rfl,rfl⟩
abbrev lCh(l:List Ch):AV := .lst false (l.map rC)
def chA(vs:List Bool)(s:Nat)(g:List (Int×Int)):List Ch:=(g.filter fun p=>decide (s=0)||vs.getD p.1.toNat true).map fun p=>((s:Int),p.1,p.2)
def chs(vs:List Bool)(g:List (Int×Int))(k:Nat):List Ch:=(qq k).flatMap fun s=>chA vs s g
theorem gh(vs g k):chs vs g (k+1)=chs vs g k++chA vs k g:=by
 rw[chs,List.range_succ,List.flatMap_append];simp[chs]
theorem qhS(vs s)(g:List (Int×Int))(j h):chA vs s (g.take (j+1))=chA vs s (g.take j)++(if (decide (s=0)||vs.getD g[j].1.toNat true)=true then [((s:Int),g[j].1,g[j].2)] else []):=by
 rw[jx h,chA,List.filter_append,zF];by_cases i:(decide (s=0)||vs.getD g[j].1.toNat true)=true
 .rw [if_pos i,show [g[j]].filter (fun p=>decide (s=0)||vs.getD p.1.toNat true)=[g[j]] from List.filter_cons_of_pos (p:=fun p:Int×Int=>decide (s=0)||vs.getD p.1.toNat true) i];rfl
 .rw [if_neg i,show [g[j]].filter (fun p=>decide (s=0)||vs.getD p.1.toNat true)=[] from List.filter_cons_of_neg (p:=fun p:Int×Int=>decide (s=0)||vs.getD p.1.toNat true) i];rfl
theorem gi(vs s g):(chA vs s g).length<=g.length:=by
 rw[chA,yi];grind
theorem gj(vs g):∀ k,(chs vs g k).length<=k*g.length
 | 0=>by simp[chs]
 |k+1=>by
  rw[gh,qW,Nat.succ_mul];have:=gj vs g k;have:=gi vs k g;omega
theorem gk:∀ g k,∀ p,p∈qM g k->(k:Int)<=p.1/\p.1<(k+g.length:Nat)
 | [],k,p,h=>by simp[qM]at h
 |b :: g,k,p,h=>by
  simp only[qM,qI]at h;rcases h with h|h
  .simp only[yo,qp]at h
   obtain⟨t,_,rfl⟩:=h;simp;omega
  .have:=gk g (k+1) p h
   simp only[zC];omega
def selT(g:List Ch)(s f:Nat):List Int:=(g.filter fun c:Ch=>decide (c.1=(s:Int))&&decide (c.2.1=(f:Int))).map fun c=>c.2.2
def ub(g:List Ch)(s f:Nat)(b:Bd):Rl:=unR b.lo ⟨b.lo.ar,selT g s f⟩
def jS(vs:List Bool)(i:List Bd)(g:List Ch)(s:Nat):List Rl:=i.mapIdx fun f b=>if s≠0/\vs.getD f true=false then ub g 0 f b else ub g s f b
theorem WR(vs g i s):(jS vs g i s).length=g.length:=by simp[jS]
theorem WS(vs g i s f h j):(jS vs g i s)[f]=if s≠0/\vs.getD f true=false then ub i 0 f g[f] else ub i s f g[f]:=by simp[jS]
def wt(sc:Sc)(vs:List Bool)(g:List Bd)(i:List Ch)(N:Nat)(loop:Int):Md:=⟨sc,(qq N).map (jS vs g i),loop⟩
end GU
namespace GY
open E3 GU
def subs{C:Type}:List C->List C->List (List C)
 |c,[]=>[c]
 |c,a :: r=>subs c r++subs (c++[a]) r
theorem Vs{C}:∀(r c x:List C),x∈subs c r↔∃ y,y.Sublist r/\x=c++y
 | [],c,x=>by simp[subs]
 |a :: r,c,x=>by
  rw[subs,qI,Vs r,Vs r];constructor
  .rintro (⟨y,h,rfl⟩|⟨y,h,rfl⟩)
   .grind
   simp_all
  .rintro ⟨y,h,rfl⟩
   cases h with
   |cons _ h=>grind
   |cons_cons _ h=>grind
def Yq(sc:Sc)(vs:List Bool)(g:List Bd)(i:List Ch)(N:Nat):List Md:=(qq N).flatMap fun k:Nat=>(subs [] i).map fun c=>wt sc vs g c N (k:Int)
theorem gl{sc vs j l N m}:m∈Yq sc vs j l N↔∃(k:Nat) (c:List Ch),k<N/\c.Sublist l/\m=wt sc vs j c N k:=by
 simp only[Yq,ul,zG,qp];constructor
 .rintro ⟨k,g,c,i,rfl⟩
  obtain⟨y,o,rfl⟩:=(Vs _ _ _).1 i;exact⟨k,_,g,o,rfl⟩
 .rintro ⟨k,c,g,i,rfl⟩
  exact⟨k,g,c,(Vs _ _ _).2 ⟨c,i,rfl⟩,rfl⟩
end GY
namespace GZ
open E1 GB GF GP GU GY
theorem gt(g s f t):t∈selT g s f↔((s:Int),(f:Int),t)∈g:=by
 simp only[selT,qp,yT,qu,decide_eq_true_eq];constructor
 .rintro ⟨⟨a,b,c⟩,⟨h,i,j⟩,rfl⟩
  simp only at i j;subst i j;exact h
 .intro h
  exact⟨_,⟨h,rfl,rfl⟩,rfl⟩
theorem WT:∀ g k p t,(p,t)∈qM g k↔∃(f:Nat) (h:f<g.length),p=((k+f:Nat):Int)/\t∈vH g[f]
 | [],k,p,t=>by simp[qM]
 |b :: g,k,p,t=>by
  simp only[qM,qI,yo,qp,vu,WT g (k+1)];constructor
  .rintro (⟨a,j,rfl,rfl⟩|⟨f,hf,rfl,i⟩)
   .exact ⟨0,zSp,zSp,zUs j⟩
   .exact ⟨f+1,by simpa using hf,zOm,zUs i⟩
  .rintro ⟨f,hf,rfl,i⟩
   cases f with
   |zero=>grind
   |succ f=>grind
theorem gu(vs g)(N s f:Nat)(t):((s:Int),(f:Int),t)∈chs vs (qM g 0) N↔s<N/\(s=0\/vs.getD f true=true)/\∃ h,t∈vH g[f]:=by
 simp only[chs,ul,zG,chA,qp,yT,vr,decide_eq_true_eq,vu,Prod.exists];constructor
 .rintro ⟨r,j,p,C,⟨I,i⟩,J,rfl,rfl⟩
  grind [WT]
 .rintro ⟨l,i,hf,o⟩
  exact⟨s,l,f,t,⟨(WT _ _ _ _).2 ⟨f,hf,zSp,o⟩,zUs i⟩,rfl,rfl,rfl⟩
theorem gw(g lo t)(i:t∈lo.ts):∀(ts:List Int)(q),t∈q.1\/t∈ts->t∈(ts.foldl (js g lo) q).1
 | [],q,h=>by
  grind
 |a :: ts,q,h=>by
  rw[List.foldl_cons];refine gw g lo t i ts _ ?_;rcases h with h|h
  .grind [js,List.mem_append_left]
  .rcases ql.1 h with rfl|h
   .refine .inl ?_
    unfold js;rw[if_pos i];exact List.mem_append_right _ (qL.2 rfl)
   grind
theorem gx(g):∀(i:List Bd)(q),∃ l,(i.foldl (insB g) q).1=q.1++l
 | [],q=>⟨[],zSp⟩
 |b :: i,q=>by
  obtain⟨l,h⟩:=gx g i (insB g q b);exact⟨_,by rw[List.foldl_cons,h];simp only[insB,zm];rfl⟩
theorem qhT(g i f)(h:f<g.length):∃ n,(zX g i)[f]?=some ⟨g[f].up.ar,(insF i g[f].lo g[f].up.ts n).1⟩:=by
 have e:g=g.take (f+1)++g.drop (f+1):=(un ..).symm;have j:yy g i=(g.drop (f+1)).foldl (insB i) (yy (g.take (f+1)) i):=by
  rw[yy,yy,<-Qi,un]
 obtain⟨l,o⟩:=gx i (g.drop (f+1)) (yy (g.take (f+1)) i);rw[<-j,p7 g i f h]at o;have p:(zX (g.take f) i).length=f:=by rw[Zm];simp;omega
 grind [yy,zX,insB,zm,zK]
theorem gy(b t):t∈vH b↔t∈b.up.ts/\¬t∈b.lo.ts:=by simp[vH]
theorem qhU(g i f h)(r:g[f].lo.ar=g[f].up.ar)(C:sorted g[f].up.ts)(j:∀ t,t∈g[f].lo.ts->t∈g[f].up.ts)(ts)
  (l:∀ t,t∈ts↔t∈vH g[f]/\t∈((zX g i).getD f noR).ts):unR g[f].lo ⟨g[f].lo.ar,ts⟩=(zX g i).getD f noR:=by
 obtain⟨n,I⟩:=qhT g i f h;rw[zf,I]at l⊢;simp only[Option.getD_some]at l⊢;have o:(insF i g[f].lo g[f].up.ts n).1.Sublist g[f].up.ts:=by
  have:=Vp i g[f].lo g[f].up.ts ([],n) [] (List.Sublist.refl _)
  grind [insF]
 have J:∀ t,t∈g[f].lo.ts->t∈(insF i g[f].lo g[f].up.ts n).1:=fun t h=>gw i g[f].lo t h g[f].up.ts ([],n) (.inr (j t h))
 obtain⟨P,R⟩:=Wi (g[f].lo.ts++ts);unfold unR;rw[r];congr 1;refine qfE P (C.sublist o) fun x=>?_
 rw[R,qI,l x,gy];constructor
 .rintro (h|⟨_,h⟩)
  .exact J x h
  .exact h
 .intro h
  by_cases p:x∈g[f].lo.ts
  .exact .inl p
  .exact .inr ⟨⟨o.subset h,p⟩,h⟩
theorem qhV(sc:Sc)(vs g i)(N k:Nat)(hN:sc.sN=N)(J:k<N)
  (P:∀ b,b∈g->b.lo.ar=b.up.ar) (R:∀ b,b∈g->sorted b.up.ts) (l:∀ b,b∈g->∀ t,t∈b.lo.ts->t∈b.up.ts) :
  anyM sc vs g i k∈Yq sc vs g (chs vs (qM g 0) N) N:=by
 refine gl.2 ⟨k,(chs vs (qM g 0) N).filter fun c=>decide (c.2.2∈((zX g (i.getD c.1.toNat [])).getD c.2.1.toNat noR).ts),J,List.filter_sublist,?_⟩;unfold anyM wt;have p:sc.sN.toNat=N:=zOm;rw[p];congr 1;refine List.map_congr_left fun s o=>?_
 rw[zG]at o;have key:∀(s f:Nat)(hf:f<g.length),s<N->(s=0\/vs.getD f true=true) ->
   ub ((chs vs (qM g 0) N).filter fun c=>decide (c.2.2∈((zX g (i.getD c.1.toNat [])).getD c.2.1.toNat noR).ts)) s f g[f]=(zX g (i.getD s [])).getD f noR:=fun s f hf T hc=>by
  have r:=qv hf;refine qhU g (i.getD s []) f hf (P _ r) (R _ r) (l _ r) _ fun t=>?_
  simp_all[gt,yT,gu,decide_eq_true_eq,Int.toNat_natCast]
 refine List.ext_getElem (by rw[p9,WR]) fun f h1 h2=>?_
 have hf:f<g.length:=by grind [p9]
 rw[WS _ _ _ _ _ hf];have U:∀ j,f<(zX g j).length:=fun j=>by rw[Zm];exact hf
 have hg:∀ j,(zX g j)[f]'(U j)=(zX g j).getD f noR:=fun j=>by grind
 by_cases C:s=0
 .subst C
  rw[if_neg zSp,key 0 f hf o (.inl rfl)];simp only[anyS,if_true];exact hg _
 .simp only[anyS,if_neg C,List.getElem_mapIdx]
  by_cases I:vs.getD f true=true
  .grind
  .rw [if_neg I,if_pos ⟨C,zUs I⟩,key 0 f hf zOm (.inl rfl)]
end GZ
namespace GN
open E3 E4 F1 GD
theorem qhW(xs ys C p)(hf:Zj qc C eRel (fun x y=>x∈xs/\y∈ys) p)(U:xs.length<=1000000000) :
  qh qc 95 [lRel xs,lRel ys,C] (aB (z7 p xs ys)):=by
 refine qSU call95 func95 rfl ?_;by_cases g:xs.length=ys.length
 rotate_left
 .simp [go_sem,g,Wn p xs ys g]
  exact .zsc _
 simp[go_sem,g];refine qn.up xs.length (fun k st=>st.tm 1=lRel ys/\st.tm 2=C/\st.tm 15=lRel xs/\st.tm 16=aI xs.length/\st.tm 17=aI k/\z7 p (xs.drop k) (ys.drop k)=z7 p xs ys) ?_ ?_
 .simp [go_sem,g]
 rintro k st hk ⟨J,P,t,l,o,r⟩;by_cases j:k<xs.length
 .have i:k<ys.length:=by omega
  rw[pn p xs ys k j i]at r;simp[go_sem,J,P,t,l,o,j,i];refine Zj.call (enc:=eRel) hf ⟨qv j,qv i⟩ ?_;cases R:p xs[k] ys[k] with
  |true =>
   rw[R,Bool.true_and]at r;simp[go_sem,J,P,t,l,o,j];exact⟨zWr,r⟩
  |false =>
   rw[R,Bool.false_and]at r;simp[go_sem];rw[<-r];exact .zsc _
 .have I:k=xs.length:=by omega
  subst I;rw[yr,g,yr]at r;simp[go_sem,l,o];rw[<-r];exact .zsc _
theorem WU{C}[DecidableEq C]:∀(xs ys:List C),z7 (fun x y=>decide (x=y)) xs ys=decide (xs=ys)
 | [],[]=>rfl
 | [],_ :: _=>rfl
 |_ :: _,[]=>rfl
 |x :: xs,y :: ys=>by
  rw[z7,WU xs ys,jZ];simp
theorem sameU(xs ys)(i:xs.length<=1000000000)(j:∀ r,r∈xs->r.ts.length<=1000000000):qh qc 56 [lRel xs,lRel ys] (aB (decide (xs=ys))):=by
 refine qSU call56 func56 rfl ?_;refine cY (qhW xs ys _ (fun x y=>decide (x=y)) ⟨w9 _,_,_,rfl,fun x y g=>⟨[eRel x,eRel y],by simpa using WKs.zk (Q0 x) (.zk (Q0 y) .nil),qfH x y (zW1 (j x g.1))⟩⟩ i) (.zk (wd _) (.zk (wd _) (.zk (w9 _) .nil))) ?_;rw[WU];simp[go_sem];exact .zsc _
structure smMd (m:Md):Prop where
 na:m.sc.sC.length<=1000000000
 ns:m.sK.length<=1000000000
 nf:∀ s,s∈m.sK->s.length<=1000000000
 nt:∀ s,s∈m.sK->∀ r,r∈s->r.ts.length<=1000000000
instance:DecidableEq Sc:=fun a b=>decidable_of_iff (a.sC=b.sC/\a.sN=b.sN) (by
 obtain⟨a1,a2⟩:=a;obtain⟨b1,b2⟩:=b;simp)
instance:DecidableEq Md:=fun a b=>decidable_of_iff (a.sc=b.sc/\a.sK=b.sK/\a.loop=b.loop) (by
 obtain⟨a1,a2,a3⟩:=a;obtain⟨b1,b2,b3⟩:=b;simp)
theorem qhX(a b:Md):decide (a=b)=(decide (a.sc.sC=b.sc.sC)&&decide (a.sc.sN=b.sc.sN)&&decide (a.loop=b.loop)&&decide (a.sK=b.sK)):=by
 obtain⟨⟨o,p⟩,r,t⟩:=a;obtain⟨⟨C,I⟩,J,P⟩:=b;rw[jZ];simp;constructor
 .rintro ⟨⟨g,i⟩,j,l⟩;exact⟨⟨⟨g,i⟩,l⟩,j⟩
 .rintro ⟨⟨⟨g,i⟩,l⟩,j⟩;exact⟨⟨g,i⟩,j,l⟩
theorem qhY(a b)(i:smMd a):qh qc 15 [eMd a,eMd b] (aB (decide (a=b))):=by
 refine qSV call15 func15 rfl ?_;rw[qhX];simp[go_sem];refine cY (J5 _ _ (zW1 i.na)) (.zk (qR _) (.zk (qR _) .nil)) ?_;by_cases j:a.sc.sC=b.sc.sC
 .by_cases l:a.sc.sN=b.sc.sN
  .by_cases o:a.loop=b.loop
   .simp [go_sem,j,l,o]
    refine cY (pp a.sK b.sK _ (fun x y=>decide (x=y)) ⟨w9 _,_,_,rfl,fun x y g=>⟨[lRel x,lRel y],by simpa using WKs.zk (wd x) (.zk (wd y) .nil),sameU x y (i.nf x g.1) (i.nt x g.1)⟩⟩ i.ns) (.zk (Zf _) (.zk (Zf _) (.zk (w9 _) .nil))) ?_;rw[WU];simp[go_sem];exact .zsc _
   .simp [go_sem,j,l,o]
    exact .zsc _
  .simp [go_sem,j,l]
   exact .zsc _
 .simp [go_sem,j]
  exact .zsc _
end GN
namespace GV
open E3
def mdZ:Md:=⟨⟨[],0⟩,[],0⟩
theorem qhZ(mu):Rd mu (.agg [.lst true [],aI 0,.lst true [],aI 0]) (eMd mdZ):=
 Rd.aggs ⟨.wk _ true _ (.hf _ (HF.lst fun r g=>by simp at g)),.hf _ (HF.sc _),.wk _ true _ (.hf _ (HF.lst fun r g=>by simp at g)),.hf _ (HF.sc _),trivial⟩
end GV
namespace GW
open P1 E9 EW GA G5
theorem gA:∀ l x i,0<=x->jP l x i = -1\/∃(j:Nat) (h:j<l.length),jP l x i=i+j/\0<=x-sumI (l.take j)/\x-sumI (l.take j)<l[j]
 | [],x,i,_ => .inl rfl
 |a :: l,x,i,h=>by
  rw[jP];by_cases g:x<a
  .grind [sumI]
  .rw [if_neg g]
   rcases gA l (x-a) (i+1) zOm with e|⟨j,o,p,r,t⟩
   .exact .inl e
   .refine .inr ⟨j+1,zUs o,by rw[p];push_cast;omega,?_,?_⟩
    .simp only[List.take_succ_cons,sumI,List.foldr_cons]at r⊢;omega
    .simp only[List.take_succ_cons,sumI,List.foldr_cons,List.getElem_cons_succ]at t⊢;omega
def z9(n:Int)(ds:List Int)(p:Int):Int:=ds.foldl (fun p d=>p*n+d) p
theorem gB(n)(i:0<n):∀ k r,0<=r->r<n ^ k->z9 n (digs n k r) 0=r
 | 0,r,j,g=>by
  have:r=0:=by rw[Int.pow_zero]at g;omega
  subst this;rfl
 |k+1,r,j,g=>by
  have l:r / n<n ^ k:=Int.ediv_lt_of_lt_mul i (by rw[<-Int.pow_succ];exact g);rw[digs,z9,Qi];show z9 n (digs n k (r / n)) 0*n+r % n=r;rw[gB n i k (r / n) (Int.ediv_nonneg j zOm) l,Int.mul_comm];exact Int.mul_ediv_add_emod r n
theorem gC(sc)(J:∀ a,a∈sc.sC->0<=a):∀(l ds:List Int)(p),ds.length=l.length->(∀ s,s∈l->0<=s)->(∀(i h)(h2:i<l.length),0<=ds[i]/\jQ sc ds[i]=l[i])->z9 (sumI sc.sC) ds p∈tupR sc l p
 | [],[],p,_,_,_=>by simp[tupR,z9]
 |s :: l,d :: ds,p,o,I,h=>by
  rw[tupR,ul];obtain⟨r,g⟩:=h 0 zSp zSp;simp only[List.getElem_cons_zero]at r g;have P:=I s zSp;rcases gA sc.sC d 0 r with e|⟨j,R,T,e2,e3⟩
  .rw [jQ,e]at g;omega
  .rw [jQ,T]at g
   have t:s.toNat=j:=zOm;have U:gI sc.sC s.toNat=sc.sC[j]:=by rw[t];exact vD R
   refine⟨(d-sumI (sc.sC.take j)).toNat,zG.2 (by rw[U];omega),?_⟩;have:=gC sc J l ds (p*sumI sc.sC+d) (zUs o) (fun s hs=>I s (zP1 hs)) (fun i hi C=>h (i+1) (zUs hi) (zUs C));rw[t,show sumI (sc.sC.take j)+((d-sumI (sc.sC.take j)).toNat:Int)=d by omega];exact this
 | [],_ :: _,_,o,_,_=>by simp at o
 |_ :: _,[],_,o,_,_=>by simp at o
theorem qh0(sc)(g:GSc sc)(C:0<sumI sc.sC)(l:List Int)(J:l.length<=3)(P:∀ s,s∈l->0<=s/\s<sc.sC.length):∀ x,x∈zT sc l->x∈tupR sc l 0:=fun x I=>by
 have j:=g.sum sc.sC.length;rw[za]at j;have R:=Yn (sumI sc.sC) j.1 j.2 l.length J;unfold zT jr at I;obtain⟨r,T,rfl⟩:=qp.1 I;obtain⟨U,h2⟩:=yT.1 T;rw[zG]at U;have o:(r:Int)<sumI sc.sC ^ l.length:=zOm;have hf:=gB (sumI sc.sC) C l.length r zOm o;have hm:=gC sc (fun a ha=>(g.2 a ha).1) l (digs (sumI sc.sC) l.length r) 0 (Zl _ _ _) (fun s p=>(P s p).1) (fun i hi t=>?_)
 .grind
 .have hd:=WI (sumI sc.sC) C j.2 l.length r _ (qv hi)
  refine⟨hd.1,?_⟩;have:=JW.1 h2 i t
  grind [vD]
structure BndV (ts:TS) (sc:Sc) (bs:List Bd):Prop where
 len:bs.length=ts.sA.length
 lo:∀(i:Nat)(h:i<bs.length)(h2:i<ts.sA.length),bs[i].lo.ar=ts.sA[i].sS.length/\bs[i].up.ar=ts.sA[i].sS.length
 so:∀ b,b∈bs->b.lo.ts.Pairwise (·<·)/\b.up.ts.Pairwise (·<·)
 sub:∀ b,b∈bs->∀ t,t∈b.lo.ts->t∈b.up.ts
 full:∀(i:Nat)(h:i<bs.length)(h2:i<ts.sA.length),∀ t,t∈bs[i].up.ts->t∈zT sc ts.sA[i].sS
theorem qh1(sc)(g:GSc sc)(l)(j:l.length<=3):(zT sc l).length<=8000:=by
 have i:=g.sum sc.sC.length;rw[za]at i;have o:=Yn (sumI sc.sC) i.1 i.2 l.length j;refine zS (Vo _ _ _) ?_;omega
theorem WV{a b:List Int}(g:a.Pairwise (·<·))(h:∀ t,t∈a->t∈b):a.length<=b.length:=jI (qf3 g) h
end GW
namespace GX
end GX
namespace HA
open P1 E1 GF GU GW GZ
theorem gD(c s f b t):t∈(ub c s f b).ts↔t∈b.lo.ts\/((s:Int),(f:Int),t)∈c:=by
 unfold ub unR;rw[(Wi _).2,qI,gt]
theorem gE(c s f b):sorted (ub c s f b).ts:=(Wi _).1
theorem gF{ts sc g}(B:BndV ts sc g){vs N c}(i:c.Sublist (chs vs (qM g 0) N))(s f hf) :
  (∀ t,t∈g[f].lo.ts->t∈(ub c s f g[f]).ts)/\∀ t,t∈(ub c s f g[f]).ts->t∈g[f].up.ts:=by
 refine⟨fun t h=>(gD ..).2 (.inl h),fun t h=>?_⟩;rcases (gD ..).1 h with h|h
 .exact B.sub _ (qv hf) t h
 .obtain ⟨_,_,_,h⟩:=(gu ..).1 (i.subset h)
  exact((gy ..).1 h).1
theorem qh2{ts sc g}(B:BndV ts sc g){vs N c}(i:c.Sublist (chs vs (qM g 0) N))(s f hf)(j:f<(jS vs g c s).length) :
  (jS vs g c s)[f].ar=g[f].lo.ar/\sorted (jS vs g c s)[f].ts/\(∀ t,t∈g[f].lo.ts->t∈(jS vs g c s)[f].ts)/\∀ t,t∈(jS vs g c s)[f].ts->t∈g[f].up.ts:=by
 rw[WS _ _ _ _ _ hf];split
 .exact ⟨rfl,gE ..,gF B i _ _ hf⟩
 .exact ⟨rfl,gE ..,gF B i _ _ hf⟩
end HA
namespace HB
end HB
namespace HC
end HC
namespace HD
end HD
namespace HE
open P1 E1 G5 GP GW
def wtR(rw:List Int)(k:Nat):Int:=if k<rw.length then rw.getD k 0 % 4 else 1
def selW(p:Int->Bool)(rw:List Int):List Int->Nat->List Int
 | [],_=>[]
 |t :: R,k=>(if p (wtR rw k)=true then [t] else [])++selW p rw R (k+1)
theorem gG(p rw):∀ ts g k,selW p rw (ts++g) k=selW p rw ts k++selW p rw g (k+ts.length)
 | [],g,k=>by simp[selW]
 |t :: ts,g,k=>by
  rw[yU,selW,selW,gG p rw ts g (k+1),zm,zC,show k+1+ts.length=k+(ts.length+1) by omega]
theorem gH(p rw)(ts:List Int)(k h):selW p rw (ts.take (k+1)) 0=selW p rw (ts.take k) 0++(if p (wtR rw k)=true then [ts[k]] else []):=by
 grind [jx,gG,selW]
theorem uc(p rw):∀ ts k,(selW p rw ts k).Sublist ts
 | [],k=>List.Sublist.refl _
 |t :: ts,k=>by
  rw[selW];split
  .exact (uc p rw ts (k+1)).cons_cons t
  .exact (uc p rw ts (k+1)).cons t
theorem gJ{p q}(h:∀ x,p x=true->q x=true)(rw):∀ ts k t,t∈selW p rw ts k->t∈selW q rw ts k
 | [],k,t,g=>g
 |a :: ts,k,t,g=>by
  rw[selW,qI]at g⊢;rcases g with g|g
  .grind
  .exact .inr (gJ h rw ts (k+1) t g)
def Vt(rw:List Int)(b:Bd):Bd:=⟨⟨b.up.ar,selW (fun x=>decide (1<x)) rw b.up.ts 0⟩,⟨b.up.ar,selW (fun x=>decide (0<x)) rw b.up.ts 0⟩⟩
def zy(ts:TS)(sc:Sc)(raw:List (List Int)):List Bd:=(defB ts sc).mapIdx fun i b=>Vt (raw.getD i []) b
theorem uP(ts sc raw):(zy ts sc raw).length=ts.sA.length:=by simp[zy,defB]
theorem Vu(ts sc raw i h)(g:i<ts.sA.length):(zy ts sc raw)[i]=Vt (raw.getD i []) ⟨⟨ts.sA[i].sS.length,[]⟩,⟨ts.sA[i].sS.length,zT sc ts.sA[i].sS⟩⟩:=by
 simp[zy,defB]
theorem gK(ts sc raw)(hf:∀ f,f∈ts.sA->sorted (zT sc f.sS)):BndV ts sc (zy ts sc raw):=by
 have key:∀ b,b∈zy ts sc raw->∃(i:Nat) (g:i<ts.sA.length),b=Vt (raw.getD i []) ⟨⟨ts.sA[i].sS.length,[]⟩,⟨ts.sA[i].sS.length,zT sc ts.sA[i].sS⟩⟩:=fun b j=>by
  obtain⟨i,p,rfl⟩:=List.mem_iff_getElem.1 j
  grind [uP,Vu]
 refine⟨uP ..,fun i h g=>?_,fun b j=>?_,fun b j t l=>?_,fun i h g t l=>?_⟩
 .rw [Vu _ _ _ _ h g];exact⟨rfl,rfl⟩
 .obtain ⟨i,g,rfl⟩:=key b j
  have:=hf _ (qv g);exact⟨this.sublist (uc ..),this.sublist (uc ..)⟩
 .obtain ⟨i,g,rfl⟩:=key b j
  exact gJ (fun x o=>by have:=of_decide_eq_true o;grind) _ _ _ t l
 .rw [Vu _ _ _ _ h g]at l
  exact(uc ..).subset l
end HE
namespace HF1
open GB
abbrev cEd(e:Ed):List AV:=[aI e.kind,aI e.state,aI e.field,aI e.tup]
abbrev lEd(l:List Ed):AV := .lst false (l.map cEd)
theorem WW(xs:List Ed):zb 4 (xs.map cEd):=fun r g=>by
 obtain⟨n,_,rfl⟩:=qp.1 g;exact⟨rfl,rfl⟩
theorem qh3(l):HF (lEd l):=HF.lst fun r i c g=>by
 obtain⟨n,_,rfl⟩:=qp.1 i;simp at g;rcases g with rfl|rfl|rfl|rfl<;>exact HF.sc _
theorem qh4{a b:Ed}:a=b↔a.kind=b.kind/\a.state=b.state/\a.field=b.field/\a.tup=b.tup:=by
 cases a;cases b;simp
instance:DecidableEq Ed:=fun a b=>decidable_of_iff _ qh4.symm
end HF1
namespace HG
end HG
namespace HH
end HH
namespace HI
end HI
namespace HJ
end HJ
namespace HK
end HK
namespace HL
end HL
namespace HM
end HM
namespace HN
open GF
theorem qh5(b t)(g:b.up.ts.length<=1000000000):qh qc 87 [eBd b,aI t] (aB (decide (t∈b.up.ts))):=by
 refine qSU call87 func87 rfl ?_;refine fY (EO.kV b.up.ts t g) (.zk (qR _) (.zs .nil)) ?_;exact .zsc _
theorem qh6(b t)(g:b.lo.ts.length<=1000000000):qh qc 90 [eBd b,aI t] (aB (!decide (t∈b.lo.ts))):=by
 refine qSU call90 func90 rfl ?_;refine fY (EO.kV b.lo.ts t g) (.zk (qR _) (.zs .nil)) ?_;exact .zsc _
end HN
namespace HO
open GB
abbrev edsL(vs:List Bool)(l:List Ed)(S:Sts):Sts:=l.foldl (fun S e=>edSt vs e S) S
theorem wu{S s f}(g)(hf:f<S[s].length):getR S s f=S[s][f]:=by
 unfold getR;rw[zf,zf,qx g];simp[hf]
end HO
end Go.Proofs.YthkdjhkmlmjkbaaGreatDoor
