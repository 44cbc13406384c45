/-
  Own library, part 4: an abstract reading of values and a calculus over it; contracts of functions; plain lemmas.
-/
import Derived.Test.YtpagnklaanbmbaaGreatDoorMc
set_option linter.unusedVariables false
set_option linter.unusedSimpArgs false
set_option maxRecDepth 100000
open Go renaming Program->qb,FuncId->j1,Code->j3,TypeId->qf,Oper->us,undef->j2,Value->zS,World->qh
open Go.Proofs.Tryz renaming prog->qc
open Go.IntKind renaming i64->qi
open List renaming getElem?_eq_some_iff->qj,mem_map->qp,range->qt,mem_cons->qw,getElem?_append_left->qx,getElem_mem->qy,getElem?_eq_getElem->qz,mem_append->qG,all_eq_true->qH,not_mem_nil->qI,mem_singleton->qN,mem_cons_of_mem->qO,mem_cons_self->qU,getElem?_append_right->qV,length_append->qX,take_length->q8,mem_of_getElem?->q9,append_assoc->zc,map_append->zg,getElem?_set_ne->zo,getElem?_map->zp,getElem?_set_self->zr,replicate->zt,length_cons->zu,drop_eq_getElem_cons->zG,length_map->zH,take_of_length_le->zN,mem_range->yk,cons_append->yD,getElem?_eq_none->yF,drop_length->yH,getElem?_take->yT,mem_filter->y9,ext_getElem?->jy,take_succ_eq_append_getElem->jH,mem_of_mem_take->vg,getElem?_toArray->vJ,length_take->vK,flatMap_cons->wB,foldl_append->Qe,mem_flatMap->Qf,getElem_of_mem->Zu,getElem?_range->YQ
open Option.some renaming injEq->qo
open Bool renaming and_eq_true->qr,eq_iff_iff->vL
open Nat renaming le_refl->qs,le_trans->zY,zero_add->yf,le_of_ble_eq_true->yj,lt_succ_iff_lt_or_eq->Qg
open Option renaming map_some->qW,map_eq_some_iff->yG
open Except.ok renaming injEq->jI
open Int renaming mul_le_mul->vh
namespace Go.Proofs.YtpagnklaanbmbaaGreatDoor
open Go Go.Ev Go.Proofs Tryz
namespace E4
open E1
theorem has06(r:Rl)(x:Int)(hl:r.ts.length<=1000000000)(hs:sorted r.ts):qe qc 280 [eRel r,aI x] (aB (decide (x∈r.ts))):=by
 refine qSV call280 func280 rfl ?_;simp[go_sem];refine qk.keep (fun n st=>∃ j g:Nat,n=g-j/\st.tm 1=aI x/\st.tm 2 = .ip [aI r.ar,lI r.ts]/\st.tm 5=aI j/\st.tm 6=aI g/\st.mu=[]/\j<=g/\g<=r.ts.length/\(∀(i:Nat) (h:i<r.ts.length),i<j->r.ts[i]<x)/\(∀(i:Nat) (h:i<r.ts.length),g<=i->x<=r.ts[i])) r.ts.length ?_ ?_
 .exact ⟨0,r.ts.length,by omega,by simp[go_sem],by simp[go_sem],by simp[go_sem],by simp[go_sem],by simp[go_sem],by omega,by omega,fun i h h'=>by omega,fun i h h'=>by omega⟩
 rintro n st ⟨j,g,hn,J,C,P,R,T,a3,a4,I,U⟩;by_cases a0:j<g
 .have hw:qi.wrap (qi.wrap ((j:Int)+g) / 2)=(((j+g) / 2:Nat):Int):=by
   rw[qg (n:=(j:Int)+g) (by omega) (by omega),qg (by omega) (by omega)];omega
  have a1:(qi.wrap ((j:Int)+g)).tdiv 2=qi.wrap ((j:Int)+g) / 2:=Int.tdiv_eq_ediv_of_nonneg (by rw[qg (by omega) (by omega)];omega);have l:(j+g) / 2<r.ts.length:=by omega
  generalize a5:(j+g) / 2=mid at *
  by_cases hb:r.ts[mid]<x
  .simp [go_sem,J,C,P,R,T,a0,a1,hw,l,hb]
   refine Keep.loop (g-(mid+1)) (by omega) ⟨mid+1,g,rfl,by simp[go_sem,J],by simp[go_sem,C],?_,by simp[go_sem,R],by simp[go_sem],by omega,by omega,fun i h h'=>?_,U⟩
   .simp [go_sem]
    exact qg (by omega) (by omega)
   .rcases Nat.lt_or_ge i mid with t|t
    .exact Int.lt_trans (U3 hs t l) hb
    .have:i=mid:=by omega
     subst this;exact hb
  .simp [go_sem,J,C,P,R,T,a0,a1,hw,l,hb]
   refine Keep.loop (mid-j) (by omega) ⟨j,mid,rfl,by simp[go_sem,J],by simp[go_sem,C],by simp[go_sem,P],by simp[go_sem],by simp[go_sem],by omega,by omega,I,fun i h h'=>?_⟩;rcases Nat.lt_or_ge mid i with t|t
   .have:=U3 hs t h;omega
   .have:i=mid:=by omega
    subst this;omega
 .have a2:g=j:=by omega
  subst a2;by_cases o:g<r.ts.length
  .by_cases he:r.ts[g]=x
   .simp [go_sem,J,C,P,R,T,o,he]
    have:x∈r.ts:=he ▸ qy o;simp[this];exact .hf _ (HF.sc _)
   .simp [go_sem,J,C,P,R,T,o,he]
    have:¬x∈r.ts:=fun h=>by
     obtain⟨i,p,rfl⟩:=Zu h;rcases Nat.lt_or_ge i g with t|t
     .have:=I i p t;omega
     .rcases Nat.lt_or_ge g i with h4|h4
      .have:=U3 hs h4 p
       have:=U g o (by omega);omega
      .have:i=g:=by omega
       subst this;exact he rfl
    simp[this];exact .hf _ (HF.sc _)
  .simp [go_sem,C,P,R,T,o]
   have:¬x∈r.ts:=fun h=>by
    obtain⟨i,p,rfl⟩:=Zu h;have:=I i p (by omega);omega
   simp[this];exact .hf _ (HF.sc _)
theorem qd0(a b:Rl)(hl:a.ts.length<=1000000000)(a0:b.ts.length<=1000000000)(hs:sorted b.ts):qe qc 236 [eRel a,eRel b] (eRel ⟨a.ar,a.ts.filter (fun t=>decide (¬t∈b.ts))⟩):=by
 refine qSV call236 func236 rfl ?_;simp[go_sem];refine qk.keep (fun m st=>∃ k P i,m=a.ts.length-k/\k<=a.ts.length/\st.tm 2 = .ip [aI a.ar,lI a.ts]/\st.tm 3 = .ip [aI b.ar,lI b.ts]/\st.tm 4 = .ptr 0 0/\st.tm 5 = .ptr 1 0/\st.tm 6=aI (k:Nat) /\
  st.mu=[.arr [aI 0,.lst true []],.arr [aI a.ar,P]]++i/\OwnF 2 ([.dead,.dead]++i) 1 P (((a.ts.take k).filter (fun t=>decide (¬t∈b.ts))).map rI)) a.ts.length ?_ ?_
 .exact ⟨0,.lst true [],[],by omega,by omega,by simp[go_sem],by simp[go_sem],by simp[go_sem],by simp[go_sem],by simp[go_sem],by simp[go_sem],by simpa using OwnF.nil (by simp)⟩
 rintro m st ⟨k,P,i,rfl,hk,J,e3,e4,T,R,hm,p⟩;have p:=p.low (low:=[.dead,.dead]) (low':=[.arr [aI 0,.lst true []],.arr [aI a.ar,P]]) rfl;by_cases o:k<a.ts.length
 .simp [go_sem,J,R,o]
  refine qm.intro (by kernel_rfl) ?_;simp[go_sem,J,e3,R,o];refine qd.pure (has06 b a.ts[k] a0 hs) (.cons (.hf (z8 b)) (.cons (.hf (HF.sc _)) .nil)) ?_;have U:a.ts.take (k+1)=a.ts.take k++[a.ts[k]]:=by rw[List.take_add_one,qz o];rfl
  by_cases hb:a.ts[k]∈b.ts
  .simp [go_sem,R,hb]
   refine Keep.loop (a.ts.length-(k+1)) (by omega) ⟨k+1,P,i,rfl,by omega,by simp[go_sem,J],by simp[go_sem,e3],by simp[go_sem,e4],by simp[go_sem,T],?_,by simp[go_sem,hm],?_⟩
   .simp [go_sem];exact qg (by omega) (by omega)
   .rw [U,List.filter_append];simpa[go_sem,hb] using p.low (low':=[.dead,.dead]) rfl
  .simp [go_sem,hb]
   refine qm.intro (by kernel_rfl) ?_;simp[go_sem,J,T,R,o,hm];refine qD.intsL (low:=[.arr [aI 0,.lst true []],.arr [aI a.ar,P]]) (e:=3) (bt:=8) (z:=0) (xs:=(a.ts.take k).filter (fun t=>decide (¬t∈b.ts))) (ys:=[a.ts[k]]) (by simp[go_sem]) (by simp[go_sem]) (by simp[go_sem]) (by omega) p (by simp[qM]) ?_ ?_
   .have:=List.length_filter_le (fun t=>decide (¬t∈b.ts)) (a.ts.take k)
    have:=List.length_take_le k a.ts;have h3:[a.ts[k]].length=1:=rfl;omega
   intro a1 C I;simp[go_sem,T,R,I.cells,I.one];refine Keep.loop (a.ts.length-(k+1)) (by omega) ⟨k+1,a1,C,rfl,by omega,by simp[go_sem,J],by simp[go_sem,e3],by simp[go_sem,e4],by simp[go_sem,T],?_,by simp[go_sem],?_⟩
   .simp [go_sem];exact qg (by omega) (by omega)
   .rw [U,List.filter_append]
    simpa[go_sem,hb] using I.low (low':=[.dead,.dead]) rfl
 .have a2:k=a.ts.length:=by omega
  subst a2;simp[go_sem,J,e4,T,R,hm,p.one];rw[q8]at p;simp at p;exact Rd.rel (r:=⟨a.ar,a.ts.filter (fun t=>!decide (t∈b.ts))⟩) (p.low (low:=[.arr [aI 0,.lst true []],.arr [aI a.ar,P]]) (low':=[.arr [aI a.ar,P],.arr [aI a.ar,P]]) rfl).rdI
theorem in06(a b:Rl)(i:a.ts.length<=1000000000)(g:b.ts.length<=1000000000)(j:sorted b.ts):qe qc 158 [eRel a,eRel b] (aB (inOk a b)):=by
 refine qSV call158 func158 rfl ?_;simp[go_sem];refine qd.pure (qd0 a b i g j) (.cons (.hf (z8 a)) (.cons (.hf (z8 b)) .nil)) ?_;simp[go_sem];have e:inOk a b=decide (∀ t,t∈a.ts->t∈b.ts):=by
  rw[vL];simp[inOk]
 rw[e];exact .hf _ (HF.sc _)
theorem qd1(a b:List Int)(ha:a.length<=9223372036854775807):qe qc 118 [lI a,lI b] (aB (decide (a=b))):=by
 refine qSV call118 func118 rfl ?_;by_cases p:a.length=b.length
 case neg =>
  simp[go_sem,p];rw[decide_eq_false (by rintro rfl;exact p rfl)];exact .hf _ (HF.sc _)
 simp[go_sem,p];refine qk.up a.length (fun k st=>st.tm 0=lI a/\st.tm 1=lI b/\st.tm 12=aI a.length/\st.tm 13=aI k/\st.mu=[]/\∀(i:Nat) (h:i<a.length) (r:i<b.length),i<k->a[i]=b[i]) ?_ ?_
 .simp [go_sem,p]
 rintro k st hk ⟨J,P,j,l,R,T⟩;by_cases o:k<a.length
 .have g:k<b.length:=by omega
  simp[go_sem,j,l,R,o]
  try refine qm.intro (by kernel_rfl) ?_
  by_cases t:a[k]=b[k]
  .simp [go_sem,J,P,j,l,o,g,t]
   refine⟨qg (by omega) (by omega),fun i h r U=>?_⟩;rcases Qg.1 U with C|C
   .exact T i h r C
   .subst C;exact t
  .simp [go_sem,J,P,o,g,t]
   rw[decide_eq_false (by rintro rfl;simp at t)];exact .hf _ (HF.sc _)
 .have I:k=a.length:=by omega
  subst I;simp[go_sem,j,l,R];rw[decide_eq_true (List.ext_getElem p fun i h r=>T i h r h)];exact .hf _ (HF.sc _)
theorem qd2(a b:Rl)(j:a.ts.length<=9223372036854775807):qe qc 111 [eRel a,eRel b] (aB (decide (a=b))):=by
 have g:(a=b)=(a.ar=b.ar/\a.ts=b.ts):=by cases a;cases b;simp
 refine qSV call111 func111 rfl ?_;by_cases i:a.ar=b.ar
 case neg =>
  simp[go_sem,i,g];exact .hf _ (HF.sc _)
 simp[go_sem,i];refine qd.pure (qd1 a.ts b.ts j) (.cons (.hf (zi _)) (.cons (.hf (zi _)) .nil)) ?_;simp[go_sem,i,g];exact .hf _ (HF.sc _)
theorem WK.ints{full:Bool}(l:List Int):WK (.lst full (l.map rI)) (lI l):=WK.lst fun r i c g=>by
 obtain⟨n,_,rfl⟩:=qp.1 i;simp at g;subst g;exact HF.sc _
theorem qd3(a b:Rl)(hl:a.ts.length<=4611686018427387904):qe qc 57 [eRel a,eRel b] (aB (decide (a=b))):=by
 have o:(a=b)=(a.ar=b.ar/\a.ts=b.ts):=by cases a;cases b;simp
 refine qSV call57 func57 rfl ?_;by_cases p:a.ar=b.ar
 case neg =>
  simp[go_sem,p,o];exact .hf _ (HF.sc _)
 by_cases j:a.ts.length=b.ts.length
 case neg =>
  simp[go_sem,p,j];rw[decide_eq_false (by rintro rfl;exact j rfl)];exact .hf _ (HF.sc _)
 simp[go_sem,p,j];refine qk.up a.ts.length (fun k st=>st.tm 2 = .ip [aI a.ar,lI a.ts]/\st.tm 3 = .ip [aI b.ar,lI b.ts]/\st.tm 5=aI k/\st.mu=[]/\∀(i:Nat) (h:i<a.ts.length) (C:i<b.ts.length),i<k->a.ts[i]=b.ts[i]) ?_ ?_
 .simp [go_sem,p]
 rintro k st hk ⟨r,R,t,J,T⟩;by_cases g:k<a.ts.length
 .have l:k<b.ts.length:=by omega
  by_cases I:a.ts[k]=b.ts[k]
  .simp [go_sem,r,t,J,g]
   refine qm.intro (by kernel_rfl) ?_;simp[go_sem,r,R,t,g,l,I];refine⟨qg (by omega) (by omega),fun i h C U=>?_⟩;rcases Qg.1 U with j|j
   .exact T i h C j
   .subst j;exact I
  .simp [go_sem,r,t,J,g]
   refine qm.intro (by kernel_rfl) ?_;simp[go_sem,r,R,t,g,l,I];rw[decide_eq_false (by rintro rfl;exact I rfl)];exact .hf _ (HF.sc _)
 .have P:k=a.ts.length:=by omega
  subst P;simp[go_sem,r,t,J];rw[decide_eq_true (o ▸ ⟨p,List.ext_getElem j fun i h C=>T i h C h⟩)];exact .hf _ (HF.sc _)
end E4
namespace EO
open YS
section
variable {C:Type}{s:AV}{K:AV->Mu->Prop}{l:List Int}{mu:Mu}{P:qb}
def FnOk(P:qb)(o:AV){C:Type}(enc:C->AV)(ok:C->Prop)(g:C->AV):Prop:=
 HF o/\∃ l first j,o = .fn (.func l) first j/\∀ x,ok x->∃ i,WKs (first++[enc x]++j) i/\qe P l i (g x)
theorem FnOk.call{o:AV}{enc:C->AV}{ok:C->Prop}{g:C->AV}(h:FnOk P o enc ok g){x:C}(p:ok x){det:Bool}{mu:Mu}{K r:AV->Mu->Prop}(k:K (g x) mu):qd P det mu o [enc x] K r:=by
 obtain⟨_,l,first,j,rfl,h⟩:=h;obtain⟨i,t,I⟩:=h x p;exact .inl ⟨g x,.inl ⟨l,first,j,i,rfl,I,.inl t⟩,k⟩
def qv:AV->Option Nat
 | .sl b _ _ _=>some b
 |_=>none
def OwnI(mu:Mu)(s:AV)(l:List Int):Prop:=(s = .lst true []/\l=[])\/∃ b,s = .sl b 1 0 l.length/\mu[b]?=some (.arr (l.map aI))
def OwnV(mu:Mu)(s:AV)(l:List Int):Prop:=(s = .lst true []/\l=[])\/∃ b cells,s = .sl b 1 0 l.length/\mu[b]?=some (.arr cells)/\l.length<=cells.length/\cells.take l.length=l.map aI
theorem OwnI.v(h:OwnI mu s l):OwnV mu s l:=by
 rcases h with h|⟨b,g,i⟩
 .exact .inl h
 .exact .inr ⟨b,_,g,i,by simp,by rw[zN (by simp)]⟩
theorem OwnV.one(h:OwnV mu s l):s.one=true:=by
 rcases h with ⟨rfl,_⟩|⟨b,c,rfl,_⟩<;>rfl
theorem OwnV.cells(h:OwnV mu s l):s.cells=[s]:=by
 rcases h with ⟨rfl,_⟩|⟨b,c,rfl,_⟩<;>rfl
theorem OwnV.same{g:Mu}(h:OwnV mu s l)(i:∀ b,qv s=some b->g[b]?=mu[b]?):OwnV g s l:=by
 rcases h with h|⟨b,c,rfl,j,o,p⟩
 .exact .inl h
 .exact .inr ⟨b,c,rfl,by rw[i b rfl];exact j,o,p⟩
theorem OwnI.same{g:Mu}(h:OwnI mu s l)(i:∀ b,qv s=some b->g[b]?=mu[b]?):OwnI g s l:=by
 rcases h with h|⟨b,rfl,j⟩
 .exact .inl h
 .exact .inr ⟨b,rfl,by rw[i b rfl];exact j⟩
theorem OwnV.lt(h:OwnV mu s l){b:Nat}(g:qv s=some b):b<mu.length:=by
 rcases h with ⟨rfl,_⟩|⟨j,c,rfl,i,_⟩
 .cases g
 .cases g;exact(qj.1 i).1
theorem OwnV.rd(h:OwnV mu s l):Rd mu s (lI l):=by
 rcases h with ⟨rfl,rfl⟩|⟨b,cells,rfl,p,t,o⟩
 .exact .wk _ true _ (.hf _ (HF.lst fun r C=>by simp at C))
 .refine .sl b 1 0 _ cells _ p (by simpa using t) (by simp) (fun x g=>by
   obtain⟨l,_,rfl⟩:=qp.1 g;rfl) (fun k x y g j=>?_)
  rw[yf]at g;rw[Qx,<-o,yT]at j;split at j
  .rw [g]at j;cases j
   have:x∈cells.take l.length:=by
    refine q9 (i:=k) ?_;rw[yT,if_pos (by assumption)];exact g
   rw[o]at this;obtain⟨z,_,rfl⟩:=qp.1 this;exact .hf _ (HF.sc _)
  .exact absurd j (by simp)
theorem qD.ownVs{t j e bt:Nat}{x:AV}{ys:List Int}{z:Int}(J:qC P t=some (e,1,bt))(o:(qC P j).isSome=true)(R:qB P e=some (aI z))
  (T:bt<=16384) (U:OwnV mu s l) (hx:qM mu x=some (ys.map rI)) (I:l.length+ys.length<=4294967296)
  (k:∀ av g,OwnI g av (l++ys)->(∀ i,i<mu.length->qv s≠some i->g[i]?=mu[i]?)->mu.length<=g.length->(∀ b,qv av=some b->b=mu.length)->K av g):qD P mu #[t,j] s x K:=by
 refine .inl ⟨t,j,e,1,bt,ys.map rI,rfl,J,o,⟨_,R,rfl,rfl⟩,by omega,T,hx,zX ys,?_⟩;rcases U with ⟨rfl,rfl⟩|⟨b,cells,rfl,hc,h1,h2⟩
 .refine .inl ⟨[],rfl,fun r hr=>by simp at hr,by simpa using I,fun h=>?_,fun h=>?_⟩
  .have:ys=[]:=by simpa using h
   subst this;exact k _ _ (.inl ⟨rfl,rfl⟩) (fun _ _ _=>rfl) (qs _) (fun _ h=>by cases h)
  .refine k _ _ (.inr ⟨mu.length,by simp,by simp[Qx]⟩) (fun i p _=>?_) (by simp) (fun b h=>by cases h;rfl)
   rw[qx p]
 .refine .inr ⟨b,l.length,cells,rfl,hc,by simpa using h1,by simpa using I,?_⟩
  have e1:cells.take (l.length*1)++(ys.map rI).flatten=(l++ys).map aI:=by rw[Nat.mul_one,h2,zg,Qx]
  have e2:l.length+(ys.map rI).length=(l++ys).length:=by simp
  rw[e1,e2];refine k _ _ (.inr ⟨mu.length,rfl,?_⟩) (fun i p C=>?_) (by simp) (fun b h=>by cases h;rfl)
  .rw [qV (by simp)];simp
  .rw [qx (by simpa using p),zo (fun h=>C (by rw[h];rfl))]
theorem qD.ownV1{t p e bt:Nat}{x z:Int}(r:qC P t=some (e,1,bt))(o:(qC P p).isSome=true)(C:qB P e=some (aI z))
  (I:bt<=16384) (J:OwnV mu s l) (R:l.length+1<=4294967296)
  (k:∀ av g,OwnI g av (l++[x])->(∀ i,i<mu.length->qv s≠some i->g[i]?=mu[i]?)->mu.length<=g.length->(∀ b,qv av=some b->b=mu.length)->K av g):qD P mu #[t,p] s (.lst true [[aI x]]) K:=
 qD.ownVs (ys:=[x]) r o C I J rfl R k
theorem sumG(l:List Int)(P:l.length<=1000000)(I:∀ k,0<=sumI (l.take k)/\sumI (l.take k)<=1000000):qe qc 185 [lI l] (aI (sumI l)):=by
 refine qSV call185 func185 rfl ?_;simp[go_sem];refine qk.up l.length (fun k st=>st.tm 6=lI l/\st.tm 7=aI l.length/\st.tm 3=aI (sumI (l.take k))/\st.tm 8=aI k/\st.mu=[]) ?_ ?_
 .simp [go_sem,sumI]
 rintro k st R ⟨J,o,p,r,t⟩;by_cases g:k<l.length
 .have C:=uG l k g
  have i:=I (k+1);rw[C]at i;simp[go_sem,J,o,p,r,t,g];exact⟨by rw[C,qg (by omega) (by omega)],qg (by omega) (by omega)⟩
 .have j:k=l.length:=by omega
  subst j;simp[go_sem,o,p,r,t];exact .hf _ (HF.sc _)
theorem J0(sc:Sc)(g:GSc sc):qe qc 107 [eSc sc] (aI (sumI sc.atoms)):=by
 refine qSV call107 func107 rfl ?_;simp[go_sem];refine qd.pure (sumG _ (zY g.1 (by omega)) fun k=>by have:=g.sum k;omega) (.cons (.hf (zi _)) .nil) ?_;simp[go_sem];exact .hf _ (HF.sc _)
theorem qd4(sc:Sc)(g:GSc sc)(s:Nat)(i:s<=sc.atoms.length):qe qc 250 [eSc sc,aI s] (aI (sumI (sc.atoms.take s))):=by
 refine qSV call250 func250 rfl ?_;have j:WKs [.lst false ((sc.atoms.map rI).take s)] [lI (sc.atoms.take s)] := .cons (by rw[<-List.map_take];exact .hf (zi _)) .nil;simp[go_sem,i];refine⟨⟨_,_,⟨rfl,rfl⟩,(zX sc.atoms).ok⟩,?_⟩;refine qd.pure (sumG (sc.atoms.take s) (by simp;have:=g.1;omega) fun k=>by rw[List.take_take];have:=g.sum (min k s);omega) j ?_;simp[go_sem];exact .hf _ (HF.sc _)
def jQ(p:C->Bool):List C->Int->Int
 | [],_ => -1
 |x :: l,i=>if p x=true then i else jQ p l (i+1)
theorem kJ(p:C->Bool)(l:List C)(k:Nat)(i:Int)(h:k<l.length):jQ p (l.drop k) i=if p l[k]=true then i else jQ p (l.drop (k+1)) (i+1):=by
 rw[zG h,jQ]
theorem U6(p:C->Bool):∀(l:List C) (i:Int),0<=i->decide (0<=jQ p l i)=l.any p
 | [],i,h=>by simp[jQ]
 |x :: l,i,h=>by
  rw[jQ,List.any_cons];cases g:p x with
  |true=>simp[h]
  |false=>simpa using U6 p l (i+1) (by omega)
abbrev lB(xs:List Bool):AV := .lst false (xs.map fun b=>[aB b])
end
end EO
namespace F1
open E3
theorem Z9(l:List (List Rl)):HF (lSt l):=HF.lst fun r i c g=>by
 obtain⟨n,_,rfl⟩:=qp.1 i;simp at g;subst g;exact Z2 _
theorem qd5(m:Md):∀ c,c∈cMd m->HF c:=by
 intro c g;simp at g;rcases g with rfl|rfl|rfl|rfl
 .exact zi _
 .exact HF.sc _
 .exact Z9 _
 .exact HF.sc _
theorem Qz(m:Md):HF (eMd m):=HF.agg (qd5 m)
abbrev errV(e:Int):AV := .ifc 43 (aI e)
def endE:XE Rl->AEnd
 | .ok r => .ret (eRel r)
 | .error e => .pan (errV e)
def endN:XE Int->AEnd
 | .ok r => .ret (aI r)
 | .error e => .pan (errV e)
def endB:XE Bool->AEnd
 | .ok r => .ret (aB r)
 | .error e => .pan (errV e)
def end2:XE (Rl×Rl)->AEnd
 | .ok r => .ret (.tup [eRel r.1,eRel r.2])
 | .error e => .pan (errV e)
@[go_sem] theorem endE_ok(r:Rl):endE (.ok r) = .ret (eRel r):=rfl
@[go_sem] theorem endE_err(e:Int):endE (.error e) = .pan (errV e):=rfl
@[go_sem] theorem endN_ok(r:Int):endN (.ok r) = .ret (aI r):=rfl
@[go_sem] theorem endN_err(e:Int):endN (.error e) = .pan (errV e):=rfl
@[go_sem] theorem endB_ok(r:Bool):endB (.ok r) = .ret (aB r):=rfl
@[go_sem] theorem endB_err(e:Int):endB (.error e) = .pan (errV e):=rfl
@[go_sem] theorem end2_ok(r:Rl×Rl):end2 (.ok r) = .ret (.tup [eRel r.1,eRel r.2]):=rfl
@[go_sem] theorem end2_err(e:Int):end2 (.error e) = .pan (errV e):=rfl
theorem qd6(mu:Mu)(b:Nat)(e:Int)(g:mu[b]?=some (.arr [aI e])):jp qc 69 [.ptr b 0] mu none fun l=>l=mu:=by
 refine jp.of_awp call69 func69 rfl ⟨_,_,_,_,rfl⟩ (yj (by kernel_rfl)) (by kernel_rfl) (by kernel_rfl) (pl:={}) ?_;simp[go_sem]
end F1
namespace EP
theorem keyI:KeyT qc 3 (fun n:Int=>aI n) (fun _=>True):=by
 refine⟨fun a b _ _=>?_,fun a _=>by simp[go_sem]⟩;simp[go_sem]
theorem uK{C:Type}{l:List C}{n:Nat}(h:n<l.length):l.take (n+1)=l.take n++[l[n]]:=by rw[List.take_add_one,qz h];rfl
def cntK(f:Int->Int)(ts:List Int):List (Int×Int):=ts.foldl (fun m t=>setK (f t) ((getK (f t) m).getD 0+1) m) []
theorem kK(f:Int->Int)(ts:List Int)(t:Int):cntK f (ts++[t])=setK (f t) ((getK (f t) (cntK f ts)).getD 0+1) (cntK f ts):=by simp[cntK,Qe]
theorem J1(f:Int->Int)(ts:List Int):∀ n,n<=ts.length->∀ k:Int,0<=(getK k (cntK f (ts.take n))).getD 0/\(getK k (cntK f (ts.take n))).getD 0<=n/\(0<(getK k (cntK f (ts.take n))).getD 0↔∃ t,t∈ts.take n/\f t=k)
 | 0,_,k=>by simp[cntK,getK]
 |n+1,h,k=>by
  obtain⟨l,p,o⟩:=J1 f ts n (by omega) k;have j:n<ts.length:=by omega
  obtain⟨g1,r,_⟩:=J1 f ts n (by omega) (f ts[n]);rw[uK j,kK,uc];by_cases i:k=f ts[n]
  .rw [if_pos i]
   simp only[Option.getD_some];exact⟨by omega,by omega,fun _=>⟨ts[n],List.mem_append_right _ (qN.2 rfl),i.symm⟩,fun _=>by omega⟩
  .rw [if_neg i]
   refine⟨l,by omega,o.trans ⟨fun⟨t,g,e⟩=>⟨t,List.mem_append_left _ g,e⟩,fun⟨t,g,e⟩=>?_⟩⟩;rcases qG.1 g with g|g
   .exact ⟨t,g,e⟩
   .rw [qN]at g;subst g;exact absurd e.symm i
theorem qd7(f:Int->Int)(ts:List Int)(k:Int):0<=(getK k (cntK f ts)).getD 0/\(0<(getK k (cntK f ts)).getD 0↔∃ t,t∈ts/\f t=k):=by
 have:=J1 f ts ts.length (qs _) k;rw[q8]at this;exact⟨this.1,this.2.2⟩
end EP
namespace EQ
open E1 EJ EM EN EO
theorem qD.zeros{P:qb}{mu:Mu}{t g e bt n:Nat}{z:Int}{K:AV->Mu->Prop}(i:qC P t=some (e,1,bt))(j:P.underlying g=some (.int .i64))(l:qB P e=some (aI z))(o:bt<=16384)(p:0<n)(C:n<=4294967296)
  (k:∀ c:List AV,K (.sl mu.length 1 0 n) (mu++[.arr c])):qD P mu #[t,g] (.lst true []) (aI n) K:=
 .inr (.inr ⟨t,g,e,1,bt,_,n,[],rfl,i,j,l,rfl,rfl,by omega,o,rfl,p,rfl,fun r I=>by simp at I,by simpa using C,by simpa using k _⟩)
theorem growE(mu:Mu)(n:Nat)(I:n<=1000000):qP qc 242 [.lst true [],aI n] mu fun e m=>∃ av,e = .ret av/\OwnV m av []/\(∀ i,i<mu.length->m[i]?=mu[i]?)/\mu.length<=m.length/\∀ b,qv av=some b->mu.length<=b:=by
 refine qSW call242 func242 rfl {} ?_;have j:qi.wrap 0=0:=qg (by omega) (by omega);have o:qi.wrap (n:Int)=n:=qg (by omega) (by omega);have g:¬(n:Int)<0:=by omega
 by_cases p:n=0
 .subst p
  simp[go_sem,j];exact⟨.inl ⟨rfl,rfl⟩,by simp[qv]⟩
 .have l:0<n:=by omega
  simp[go_sem,j,o,g,l];refine⟨⟨_,_,⟨rfl,rfl⟩,fun r t=>by simp at t⟩,?_⟩;refine qD.zeros (e:=3) (bt:=8) (z:=0) (by simp[go_sem]) (by simp[go_sem]) (by simp[go_sem]) (by omega) l (by omega) ?_;intro c;simp[go_sem];refine⟨.inr ⟨mu.length,c,rfl,by simp,by simp,by simp⟩,fun i C=>by rw[qx C],by simp[qv]⟩
theorem qd8(mu:Mu)(a b:List Int)(ha:a.length<=100000)(hb:b.length<=100000):qP qc 172 [.lst true [[lI a],[lI b]]] mu fun e m=>∃ av,e = .ret av/\OwnI m av (a++b)/\(∀ i,i<mu.length->m[i]?=mu[i]?)/\mu.length<=m.length/\∀ x,qv av=some x->mu.length<=x:=by
 refine qSW call172 func172 rfl {} ?_;have v1:qi.wrap 1=1:=qg (by omega) (by omega);have v2:qi.wrap 2=2:=qg (by omega) (by omega);simp[go_sem];have n0:¬((a.length:Int)+b.length)<0:=by omega
 refine qk.up 2 (fun k st=>st.tm 0 = .lst true [[lI a],[lI b]]/\st.tm 3=aI ((if 0<k then (a.length:Int) else 0)+(if 1<k then (b.length:Int) else 0))/\st.tm 9 = .lst true [[lI a],[lI b]]/\st.tm 10=aI 2/\st.tm 11=aI k/\st.mu=mu) ?_ ?_
 .simp [go_sem]
 rintro k st hk ⟨T,U,e9,C,I,hm⟩;by_cases a0:k<2
 .have:k=0\/k=1:=by omega
  rcases this with rfl|rfl
  .have w1:qi.wrap (a.length:Int)=a.length:=qg (by omega) (by omega)
   have n1:¬(a.length:Int)<0:=by omega
   simp[go_sem,T,U,e9,C,I,hm,w1,n1,v1]
  .have w1:qi.wrap ((a.length:Int)+b.length)=a.length+b.length:=qg (by omega) (by omega)
   simp[go_sem,T,U,e9,C,I,hm,w1,n0,v2]
 .have:k=2:=by omega
  subst this;have g:=growE mu (a.length+b.length) (by omega);simp[go_sem,U,C,I,hm];refine qd.eff0 (by simpa using g) ?_ ?_
  .rintro r m ⟨av,h,t,R,hl,o⟩
   cases h;simp[go_sem,T];refine qk.up 2 (fun k st=>st.tm 25 = .lst true [[lI a],[lI b]]/\st.tm 26=aI 2/\st.tm 27=aI k/\(if k=0 then OwnV st.mu (st.tm 6) [] else OwnI st.mu (st.tm 6) (if k=1 then a else a++b))/\(∀ i,i<mu.length->st.mu[i]?=mu[i]?)/\mu.length<=st.mu.length/\∀ x,qv (st.tm 6)=some x->mu.length<=x) ?_ ?_
   .simp [go_sem]
    exact⟨t,R,hl,o⟩
   rintro k a4 hk ⟨f25,f26,f27,t,R,hl,o⟩;by_cases a0:k<2
   .have:k=0\/k=1:=by omega
    rcases this with rfl|rfl
    .rw [if_pos rfl]at t
     simp[go_sem,f25,f26,f27];refine qD.ownVs (e:=3) (bt:=8) (z:=0) (l:=[]) (ys:=a) (by simp[go_sem]) (by simp[go_sem]) (by simp[go_sem]) (by omega) t (by simp[qM]) (by simp;omega) ?_;intro a1 a2 p J a3 P;simp at p;simp[go_sem,f25,f26,f27,v1];refine⟨p,fun i hi=>?_,by omega,fun x hx=>?_⟩
     .rw [J i (by omega) (fun e=>by have:=o i e;omega)];exact R i hi
     .have:=P x hx;omega
    .rw [if_neg (by omega),if_pos rfl]at t
     simp[go_sem,f25,f26,f27];refine qD.ownVs (e:=3) (bt:=8) (z:=0) (l:=a) (ys:=b) (by simp[go_sem]) (by simp[go_sem]) (by simp[go_sem]) (by omega) t.v (by simp[qM]) (by omega) ?_;intro a1 a2 p J a3 P;simp[go_sem,f25,f26,f27,v2];refine⟨p,fun i hi=>?_,by omega,fun x hx=>?_⟩
     .rw [J i (by omega) (fun e=>by have:=o i e;omega)];exact R i hi
     .have:=P x hx;omega
   .have:k=2:=by omega
    subst this;rw[if_neg (by omega),if_neg (by omega)]at t;simp[go_sem,f26,f27];exact⟨t,R,hl,o⟩
  .rintro r m ⟨av,h,_⟩
   cases h
theorem qd9(mu:Mu):qP qc 183 [.lst true []] mu fun e m=>e = .ret (.tup [])/\m=mu:=by
 refine⟨call183,fun G w o s g=>?_⟩;obtain⟨v,rfl,i⟩:=g.one_inv;obtain⟨p,cap,rfl⟩:∃ p cap,v = .slice p 0 cap:=by cases i<;>exact⟨_,_,rfl⟩
 refine(Tryz.slices_Sort_int_none p cap w).mono fun e r ⟨j,l⟩=>?_
 subst l;exact⟨G,mu,.refl s,.inl ⟨_,_,⟨rfl,rfl⟩,j,.tup [] #[] rfl (by simp)⟩⟩
theorem sortA(mu:Mu)(av:AV)(l:List Int)(r:l.length<=1000000)(j:OwnI mu av l):qP qc 183 [av] mu fun e m=>e = .ret (.tup [])/\OwnI m av (srtI l)/\(∀ i,qv av≠some i->m[i]?=mu[i]?)/\m.length=mu.length:=by
 rcases j with ⟨rfl,rfl⟩|⟨b,rfl,g⟩
 .refine (qd9 mu).monoR ?_
  rintro e m ⟨rfl,rfl⟩;exact⟨rfl,.inl ⟨rfl,by simp[srtI]⟩,fun _ _=>rfl,rfl⟩
 .refine (sortE g (by omega)).monoR ?_
  rintro e m ⟨rfl,rfl⟩;have o:b<mu.length:=(qj.1 g).1;exact⟨rfl,.inr ⟨b,by rw[Z7],by rw[zr o]⟩,fun i p=>by rw[zo (fun e=>p (by rw[e];rfl))],by simp⟩
theorem qeA(mu:Mu)(av:AV)(l:List Int)(o:l.length<=1000000)(p:OwnI mu av l):qP qc 241 [av] mu fun e m=>∃ x,e = .ret x/\OwnV m x (cmpc eqI l)/\(∀ i,qv av≠some i->m[i]?=mu[i]?)/\m.length=mu.length/\∀ b,qv x=some b->qv av=some b:=by
 rcases p with ⟨rfl,rfl⟩|⟨b,rfl,g⟩
 .refine qSW call241 func241 rfl {} ?_
  simp[go_sem];exact .inl ⟨rfl,rfl⟩
 .refine (qdZ mu b l o g).monoR ?_
  rintro e m ⟨cells,rfl,rfl,I,j⟩;have r:b<mu.length:=(qj.1 g).1;refine⟨_,rfl,.inr ⟨b,cells,rfl,by rw[zr r],?_,j⟩,fun i t=>by rw[zo (fun e=>t (by rw[e];rfl))],by simp,fun x C=>C⟩;have:=congrArg List.length j;simp at this;omega
theorem qeB(mu:Mu)(ar:Int)(av:AV)(l:List Int)(hl:l.length<=1000000)(I:OwnI mu av l):qP qc 171 [aI ar,av] mu fun e m=>∃ x,e = .ret (.agg [aI ar,x])/\OwnV m x (ofL l)/\(∀ i,i<mu.length->qv av≠some i->m[i]?=mu[i]?)/\mu.length<=m.length/\∀ b,qv x=some b->qv av=some b:=by
 refine qSW call171 func171 rfl {} ?_;have J:OwnI (mu++[.arr [aI 0,.lst true []]]) av l:=I.same fun b P=>by rw[qx (I.v.lt P)]
 have j:qv av≠some mu.length:=fun h=>by have:=I.v.lt h;omega
 simp[go_sem];refine qd.eff0 (sortA _ av l hl J) ?_ ?_
 .rintro r m ⟨h,R,o,T⟩
  cases h;have a0:m.length=mu.length+1:=by simpa using T
  simp[go_sem];refine qd.eff0 (qeA _ av _ (by rw[Z7];exact hl) R) ?_ ?_
  .rintro r U ⟨x,h,g,p,a1,t⟩
   cases h;rw[qdX]at g;have hc:U[mu.length]?=some (.arr [aI 0,.lst true []]):=by rw[p _ j,o _ j];simp
   have C:∀ c,(U.set mu.length c)[mu.length]?=some c:=fun c=>zr (by omega)
   have hx:qv r≠some mu.length:=fun h=>j (t _ h)
   simp[go_sem,hc,C,g.one,g.cells];refine⟨?_,fun i hi hn=>?_,by omega,t⟩
   .exact g.same fun b P=>by rw[zo (fun e=>hx (by rw[e];exact P))]
   .rw [zo (by omega),p i hn,o i hn,qx hi]
  .rintro r U ⟨x,h,_⟩
   cases h
 .rintro r m ⟨h,_⟩
  cases h
theorem OwnV.rdRel{mu:Mu}{j:Int}{av:AV}{l:List Int}(h:OwnV mu av l):Rd mu (.agg [aI j,av]) (eRel ⟨j,l⟩):=by
 refine .agg _ _ rfl fun k u v g i=>?_
 match k with
 | 0=>simp at g i;subst g;subst i;exact .hf _ (HF.sc _)
 | 1=>simp at g i;subst g;subst i;exact h.rd
 |k+2=>simp at g
theorem vr(a b:Rl)(R:a.ts.length<=100000)(l:b.ts.length<=100000):qe qc 95 [eRel a,eRel b] (eRel (unR a b)):=by
 refine qSV call95 func95 rfl ?_;simp[go_sem];refine qm.seg [0,1,2,3,4,5,6,7,8,9] [(0,0,[]),(1,0,[]),(2,0,[]),(3,0,[]),(4,0,[]),(5,0,[]),(6,0,[]),(7,1,[1]),(8,1,[]),(9,1,[])] (by kernel_rfl) (by kernel_rfl) (by simp[go_sem]) ?_;simp[go_sem];refine qd.eff0 (qd8 _ a.ts b.ts R l) ?_ ?_
 .rintro r m ⟨P,h,T,U,hl,o⟩
  cases h;have p:=U 0 (by simp);simp at p;have g:qv r≠some 0:=fun h=>by have:=o 0 h;simp at this
  simp[go_sem];refine qd.eff0 (qeB m a.ar r _ (by simp;omega) T) ?_ ?_
  .rintro r J ⟨x,h,i,t,a0,C⟩
   cases h;have I:=t 0 (qj.1 p).1 g;rw[p]at I;have j:∀ c,(J.set 0 c)[0]?=some c:=fun c=>zr (qj.1 I).1
   have hx:qv x≠some 0:=fun h=>g (C _ h)
   simp[go_sem,I,j,i.one];refine OwnV.rdRel ?_;exact i.same fun b l=>by rw[zo (fun e=>hx (by rw[e];exact l))]
  .rintro r J ⟨x,h,_⟩
   cases h
 .rintro r m ⟨x,h,_⟩
  cases h
end EQ
namespace ER
open E1 EO EP EQ
theorem keepU(l:List Int)(r:AV)(p:Int->Bool)(hf:FnOk qc r (fun x:Int=>aI x) (·∈l) (fun x=>aB (p x)))(hl:l.length<=1000000):qe qc 175 [lI l,r] (lI (l.filter p)):=by
 refine qSV call175 func175 rfl ?_;simp[go_sem];refine qk.keep (fun m st=>∃ k,m=l.length-k/\k<=l.length/\st.tm 1=r/\st.tm 8=lI l/\st.tm 9=aI l.length/\st.tm 10=aI (k:Nat)/\OwnI st.mu (st.tm 5) ((l.take k).filter p)) l.length ?_ ?_
 .exact ⟨0,by omega,by omega,by simp[go_sem],by simp[go_sem],by simp[go_sem],by simp[go_sem],.inl ⟨by simp[go_sem],rfl⟩⟩
 rintro m st ⟨k,rfl,hk,t,C,j,g,o⟩;by_cases i:k<l.length
 .have T:qi.wrap ((k:Int)+1)=(k:Int)+1:=qg (by omega) (by omega)
  have U:((l.take k).filter p).length<=k:=zY (List.length_filter_le _ _) (by simp;omega);simp[go_sem,t,C,j,g,i];refine FnOk.call (enc:=fun x:Int=>aI x) hf (qy i) ?_;cases hp:p l[k] with
  |true =>
   have I:(l.take (k+1)).filter p=(l.take k).filter p++[l[k]]:=by rw[uK i,List.filter_append];simp[hp]
   simp[go_sem];refine qD.ownV1 (e:=3) (bt:=8) (z:=0) (l:=(l.take k).filter p) (by simp[go_sem]) (by simp[go_sem]) (by simp[go_sem]) (by omega) o.v (by omega) ?_;intro P a1 J _ _ _;simp[go_sem,g,T];refine Keep.loop (l.length-(k+1)) (by omega) ⟨k+1,rfl,by omega,by simp[go_sem,t],by simp[go_sem,C],by simp[go_sem,j],by simp[go_sem],?_⟩;rw[I];simpa[go_sem] using J
  |false =>
   have I:(l.take (k+1)).filter p=(l.take k).filter p:=by rw[uK i,List.filter_append];simp[hp]
   simp[go_sem,g,T];refine Keep.loop (l.length-(k+1)) (by omega) ⟨k+1,rfl,by omega,by simp[go_sem,t],by simp[go_sem,C],by simp[go_sem,j],by simp[go_sem],?_⟩;rw[I];simpa[go_sem] using o
 .have R:k=l.length:=by omega
  subst R;rw[q8]at o;simp[go_sem,j,g];exact o.v.rd
theorem sameU(x:Int):qe qc 174 [aI x] (aI x):=by
 refine qSV call174 func174 rfl ?_;simp[go_sem];exact .hf _ (HF.sc _)
abbrev imC(l:List (Int×Int)):AV := .im (encK (fun n:Int=>aI n) (fun n:Int=>aI n) l)
theorem U7(l:List (Int×Int)):HF (imC l):=HF.im fun p g=>by
 obtain⟨q,_,rfl⟩:=qp.1 g;exact⟨HF.sc _,HF.sc _⟩
theorem setU(r:Rl)(fv:AV)(f:Int->Int)(hf:FnOk qc fv (fun x:Int=>aI x) (·∈r.ts) (fun x=>aI (f x)))(hl:r.ts.length<=1000000):qe qc 173 [eRel r,fv] (imC (cntK f r.ts)):=by
 refine qSV call173 func173 rfl ?_;simp[go_sem];obtain⟨B,hB⟩:∃ B,B=AV.mp 0:=⟨_,rfl⟩;refine qk.up r.ts.length (fun k st=>st.tm 1=fv/\st.tm 5=B/\st.tm 10=lI r.ts/\st.tm 11=aI r.ts.length/\st.tm 12=aI k/\st.mu[0]?=some (.mp (encK (fun n:Int=>aI n) (fun n:Int=>aI n) (cntK f (r.ts.take k))))) ?_ ?_
 .simp [go_sem,cntK,encK,hB]
 rintro k st hk ⟨e1,e5,p,j,l,C⟩;by_cases g:k<r.ts.length
 .have w1:qi.wrap ((k:Int)+1)=(k:Int)+1:=qg (by omega) (by omega)
  obtain⟨c1,c2,_⟩:=J1 f r.ts k (by omega) (f r.ts[k]);have hs:=kK f (r.ts.take k) r.ts[k];rw[<-uK g]at hs;have a0:=keyI.look (et:=3) (t:=243) (by simp[go_sem]) (mu:=st.mu) (m := .mp 0) (venc:=fun n:Int=>aI n) (es:=cntK f (r.ts.take k)) (by simp only[jA,C]) (k:=f r.ts[k]) trivial (fun _ _=>trivial) (z:=aI 0) (by simp[go_sem]) false;have o:yK qc st.mu 243 B (aI (f r.ts[k])) false=some (aI ((getK (f r.ts[k]) (cntK f (r.ts.take k))).getD 0)):=by
   rw[hB];refine Eq.trans a0 ?_;cases getK (f r.ts[k]) (cntK f (r.ts.take k))<;>rfl
  have i:vR qc st.mu 243 (.mp 0) (aI (f r.ts[k])) (aI ((getK (f r.ts[k]) (cntK f (r.ts.take k))).getD 0+1))=_:=keyI.update (et:=3) (t:=243) (by simp[go_sem]) (mu:=st.mu) (b:=0) (venc:=fun n:Int=>aI n) (es:=cntK f (r.ts.take k)) C (k:=f r.ts[k]) (v:=(getK (f r.ts[k]) (cntK f (r.ts.take k))).getD 0+1) trivial (fun _ _=>trivial);rw[<-hs,<-hB]at i;have P:0<st.mu.length:=(qj.1 C).1;generalize (getK (f r.ts[k]) (cntK f (r.ts.take k))).getD 0=c at *
  have w2:qi.wrap (c+1)=c+1:=qg (by omega) (by omega);simp[go_sem,e1,e5,p,j,l,g];refine FnOk.call (enc:=fun x:Int=>aI x) hf (qy g) ?_;simp[go_sem,o,w2];subst hB;refine OptK.intro _ i ?_;simp[go_sem,e1,e5,p,j,l,g,w1,P]
 .have a1:k=r.ts.length:=by omega
  subst a1;rw[q8]at C;simp[go_sem,e5,j,l];rw[hB];exact .mp 0 _ _ C rfl (fun k x y R U=>by rw[R]at U;cases U;obtain⟨q,_,e⟩:=qp.1 (q9 R);rw[<-e];exact .hf _ (HF.sc _)) (fun k x y R U=>by rw[R]at U;cases U;obtain⟨q,_,e⟩:=qp.1 (q9 R);rw[<-e];exact .hf _ (HF.sc _))
theorem FnOk.same(ok:Int->Prop):FnOk qc (.fn (.func 174) [] []) (fun x:Int=>aI x) ok (fun x=>aI x):=
 ⟨HF.fn (by simp) (by simp),_,[],[],rfl,fun x _=>⟨_,.cons (.hf (HF.sc _)) .nil,sameU x⟩⟩
theorem lookC(mu:Mu)(f:Int->Int)(ts:List Int)(k:Int):yK qc mu 243 (imC (cntK f ts)) (aI k) false=some (aI ((getK k (cntK f ts)).getD 0)):=by
 have:=keyI.look (et:=3) (t:=243) (by simp[go_sem]) (mu:=mu) (m:=imC (cntK f ts)) (venc:=fun n:Int=>aI n) (es:=cntK f ts) rfl (k:=k) trivial (fun _ _=>trivial) (z:=aI 0) (by simp[go_sem]) false;simp only[yK];refine Eq.trans this ?_;cases getK k (cntK f ts)<;>rfl
theorem qeC(f:Int->Int)(ts:List Int)(x:Int):qe qc 243 [aI x,.ip [imC (cntK f ts)]] (aB (decide ((getK x (cntK f ts)).getD 0=0))):=by
 refine qSV call243 func243 rfl ?_;have g:=fun I=>lookC I f ts x
 generalize imC (cntK f ts)=B at *
 simp[go_sem,g];exact .hf _ (HF.sc _)
theorem w6{x:AV}(h:HF x):HF (.ip [x]):=HF.ip fun c g=>by simp at g;subst g;exact h
theorem qeD(ts:List Int)(x:Int):(0<(getK x (cntK (fun x=>x) ts)).getD 0↔x∈ts)/\((getK x (cntK (fun x=>x) ts)).getD 0=0↔¬x∈ts):=by
 obtain⟨l,g⟩:=qd7 (fun x=>x) ts x;have i:(∃ t,t∈ts/\t=x)↔x∈ts:=⟨fun⟨t,j,e⟩=>e ▸ j,fun h=>⟨x,h,rfl⟩⟩;rw[i]at g;exact⟨g,by rw[<-g];omega⟩
theorem Rd.ip1{mu:Mu}{b:Nat}{x y:AV}(j:mu[b]?=some (.arr [x]))(h:Rd mu x y):Rd mu (.ptr b 0) (.ip [y]):=by
 refine .ptr b 0 [x] [y] j (by simp) fun k u v i g=>?_
 match k with
 | 0=>simp at i g;subst i;subst g;exact h
 |k+1=>simp at g
theorem diffU(a b:Rl)(o:a.ts.length<=1000000)(p:b.ts.length<=1000000):qe qc 177 [eRel a,eRel b] (eRel (diR a b)):=by
 refine qSV call177 func177 rfl ?_;have r:=setU b _ _ (FnOk.same (·∈b.ts)) p;have C:=keepU a.ts (.fn (.func 243) [] [.ip [imC (cntK (fun x=>x) b.ts)]]) (fun t=>decide (¬t∈b.ts)) ⟨HF.fn (by simp) (by simp;exact w6 (U7 _)),_,[],_,rfl,fun x _=>⟨_,.cons (.hf (HF.sc _)) (.cons (.hf (w6 (U7 _))) .nil),by have:=qeC (fun x=>x) b.ts x;simp only[(qeD b.ts x).2]at this;exact this⟩⟩ o;have I:WKs [eRel b,.fn (.func 174) [] []] [eRel b,.fn (.func 174) [] []] := .cons (.hf (z8 b)) (.cons (.hf (HF.fn (by simp) (by simp))) .nil);have g:=U7 (cntK (fun x=>x) b.ts);have i:(imC (cntK (fun x=>x) b.ts)).cells=[imC (cntK (fun x=>x) b.ts)]:=rfl;have j:(imC (cntK (fun x=>x) b.ts)).one=true:=rfl;generalize imC (cntK (fun x=>x) b.ts)=B at *
 have l:WKs [lI a.ts,.fn (.func 243) [] [.ip [B]]] [lI a.ts,.fn (.func 243) [] [.ip [B]]] := .cons (.hf (zi _)) (.cons (.hf (HF.fn (by simp) (by simp;exact w6 g))) .nil);simp[go_sem];refine qd.pure r I ?_;simp[go_sem,i,j];refine qm.fz (FzQ.one (d:=5) (b:=1) (x := .ip [B]) (Rd.ip1 rfl (.hf _ g)) ?_);simp[go_sem,cutM];refine qm.intro (by kernel_rfl) ?_;simp[go_sem];refine qd.pure C l ?_;simp[go_sem];have e:diR a b=⟨a.ar,a.ts.filter fun t=>!decide (t∈b.ts)⟩:=by simp[diR]
 have h:=z8 (diR a b);rw[e]at h⊢;exact .hf _ h
theorem inU(a b:Rl)(g:a.ts.length<=1000000)(i:b.ts.length<=1000000):qe qc 97 [eRel a,eRel b] (aB (decide ((diR a b).ts=[]))):=by
 refine qSV call97 func97 rfl ?_;simp[go_sem];refine qd.pure (diffU a b g i) (.cons (.hf (z8 a)) (.cons (.hf (z8 b)) .nil)) ?_;simp[go_sem];exact .hf _ (HF.sc _)
end ER
namespace E2
open E1
theorem qeE{n k:Int}(g:0<=k)(i:k<=3):powI n k=n ^ k.toNat:=by
 unfold powI powN;congr 1;omega
theorem qeF(n:Int):powI n 1=n:=by rw[qeE (by omega) (by omega)];exact Int.pow_succ n 0 ▸ by simp
theorem GR.one{n a:Int}(i:0<=a)(j:a<n):GR n ⟨1,[a]⟩:=
 ⟨by show (1:Int)<=1;omega,by show (1:Int)<=3;omega,fun t g=>by rw[qN]at g;subst g;show _/\_<powI n 1;rw[qeF];exact⟨i,j⟩,List.pairwise_singleton _ _⟩
end E2
namespace ET
open EO
def RelM(mu:Mu)(g:Int)(l:List Int):Prop:=∃ P,mu[0]?=some (.arr [aI 0,.lst true []])/\mu[1]?=some (.arr [aI g,P])/\OwnI mu P l/\qv P≠some 0/\qv P≠some 1
theorem RelM.step{mu j:Mu}{o:Int}{av g:AV}{l:List Int}(J:mu[0]?=some (.arr [aI 0,.lst true []]))(r:mu[1]?=some (.arr [aI o,av]))(P:qv av≠some 0)(R:qv av≠some 1)(T:OwnI j g l)
  (t:∀ i,i<mu.length->qv av≠some i->j[i]?=mu[i]?) (hl:mu.length<=j.length) (C:∀ b,qv g=some b->b=mu.length):j[1]?=some (.arr [aI o,av])/\RelM (j.set 1 (.arr [aI o,g])) o l:=by
 have U:1<mu.length:=(qj.1 r).1;have m0:qv g≠some 0:=fun e=>by have:=C 0 e;omega
 have I:qv g≠some 1:=fun e=>by have:=C 1 e;omega
 refine⟨by rw[t 1 U R];exact r,g,by rw[zo (by omega),t 0 (by omega) P];exact J,by rw[zr (by omega)],T.same fun b p=>?_,m0,I⟩;rw[zo (fun e=>I (by rw[e];exact p))]
end ET
namespace EW
open EO EP EQ ER ET
inductive TagM (p:Mu->Prop):Type where
 |mk:TagM p
def uL(p:Mu->Prop)(_:TagM p)(mu:Mu):Prop:=p mu
theorem uL.intro{p:Mu->Prop}{mu:Mu}(h:p mu):uL p .mk mu:=h
theorem vV.keep{P:qb}{pl:Pol}{l:j1}{caps:List AV}{ps:Array Tmp}{g body:j3}{Q:qQ->St->Prop}{st:St}{rows:List (List AV)}(j:jm P l caps rows)(I:Nat->Mu->Prop)(i:qQ->Mu->Prop)
  (o:I 0 (st.mu++[.dead])) (p:∀ k mu,I k mu->I k (mu++[.dead])) (r:∀ e mu,i e mu->i e (mu++[.dead]))
  (t:∀ k x mu,rows[k]?=some x->I k mu->x.length=ps.size/\awp P pl g (asQ (fun st=>awp P pl body (rndQ (fun k=>uL (I k) .mk) (fun e=>uL (i e) .mk) k) st)) ⟨vp st.tm ps.toList x,mu⟩)
  (C:∀ mu,I rows.length mu->Q .normal ⟨st.tm,mu⟩) (J:∀ e mu,i e mu->Q e ⟨st.tm,mu⟩):vV P pl (.fn (.func l) [] caps) ps g body Q st:=
 vV.intro j I i o p r t C J
abbrev tupCl(sc:Sc)(p:Int)(l:List Int):AV := .fn (.func 249) [] [.ip [lI l],.ip [aI p],.ip [lI sc.atoms,aI sc.steps]]
theorem kL(sc:Sc)(p:Int)(l:List Int):qe qc 189 [eSc sc,aI p,lI l] (tupCl sc p l):=by
 refine qSV call189 func189 rfl ?_;simp[go_sem];refine .hf _ (HF.fn (fun c g=>by simp at g) (fun c g=>?_));simp at g;rcases g with rfl|rfl|rfl
 .exact w6 (zi _)
 .exact w6 (HF.sc _)
 .exact HF.ip fun c g=>by simp at g;rcases g with rfl|rfl<;>first|exact zi _|exact HF.sc _
def tupR(sc:Sc):List Int->Int->List Int
 | [],p=>[p]
 |s :: l,p=>(qt (gI sc.atoms s.toNat).toNat).flatMap fun k:Nat=>tupR sc l (p*sumI sc.atoms+(sumI (sc.atoms.take s.toNat)+k))
@[go_sem] theorem yl_cells(i:Nat):(AV.yl i).cells=[.yl i]:=rfl
@[go_sem] theorem yl_one(i:Nat):(AV.yl i).one=true:=rfl
theorem qeG(sc:Sc)(p:Int):jm qc 249 [.ip [lI []],.ip [aI p],.ip [lI sc.atoms,aI sc.steps]] [[aI p]]:=by
 refine jm.of call249 fun i I C J P o r t=>?_
 refine qSW call249 func249 rfl {} ?_;simp[go_sem];refine qd.yield (o 0 [aI p] r rfl t) ?_;rintro b l (⟨rfl,g⟩|⟨rfl,j⟩)
 .simp [go_sem]
  exact .inl g
 .simp [go_sem]
  exact .inr j
theorem qeH{i r:Nat}(h:i<r):∃ l,qt r=qt i++i :: l:=by
 refine⟨(qt r).drop (i+1),?_⟩;apply jy;intro j;by_cases g:j<i
 .rw [qx (by simpa using g),YQ g,YQ (by omega)]
 .rw [qV (by simp;omega),List.length_range]
  by_cases e:j=i
  .subst e;simp[h]
  .obtain ⟨d,o⟩:∃ d,j-i=d+1:=⟨j-i-1,by omega⟩
   rw[o,List.getElem?_cons_succ,List.getElem?_drop];congr 1;omega
theorem qeI{C:Type}(f:Nat->List C){N k j:Nat}{x:C}(g:k<N)(h:(f k)[j]?=some x):((qt N).flatMap f)[((qt k).flatMap f).length+j]?=some x:=by
 obtain⟨l,e⟩:=qeH g;rw[e,List.flatMap_append,qV (by omega),Nat.add_sub_cancel_left,wB,qx (qj.1 h).1];exact h
theorem Ya{C:Type}(f:Nat->List C)(k:Nat):(qt (k+1)).flatMap f=(qt k).flatMap f++f k:=by
 rw[List.range_succ,List.flatMap_append];simp
theorem qeJ(sc:Sc)(g:GSc sc)(hA:∀ a,a∈sc.atoms->0<=a)(s:Nat)(C:s<sc.atoms.length)(l:List Int)(hl:l.length<=10)(p:Int)(hp:0<=p/\p<=1000000)
  (ih:∀ k:Nat,k<(gI sc.atoms s).toNat->jm qc 249 [.ip [lI l],.ip [aI (p*sumI sc.atoms+(sumI (sc.atoms.take s)+k))],.ip [lI sc.atoms,aI sc.steps]] ((tupR sc l (p*sumI sc.atoms+(sumI (sc.atoms.take s)+k))).map fun t=>[aI t])) :
  jm qc 249 [.ip [lI (s :: l)],.ip [aI p],.ip [lI sc.atoms,aI sc.steps]] ((tupR sc (s :: l) p).map fun t=>[aI t]):=by
 refine jm.of call249 fun i I Ix hS hX hY mu h0=>?_
 refine qSW call249 func249 rfl {} ?_;have hz:¬(l.length:Int)+1=0:=by omega
 have a0:=qd4 sc g s (by omega);have a1:WKs [eSc sc,aI s] [eSc sc,aI s] := .cons (.hf (zA sc)) (.cons (.hf (HF.sc _)) .nil);obtain⟨s0,s1⟩:=g.sum s;obtain⟨t0,t1⟩:=g.sum sc.atoms.length;rw[q8]at t0 t1;have J:gI sc.atoms s=sc.atoms[s]:=v6 C;have ae:=hA _ (qy C);obtain⟨u0,u1⟩:=g.sum (s+1);rw[uG _ _ C]at u1;have a2:=J0 sc g;have a3:WKs [eSc sc] [eSc sc] := .cons (.hf (zA sc)) .nil;have o:tupR sc (s :: l) p=(qt (sc.atoms[s]).toNat).flatMap fun k:Nat=>tupR sc l (p*sumI sc.atoms+(sumI (sc.atoms.take s)+k)):=by
  rw[tupR,show (s:Int).toNat=s by omega,J]
 rw[J]at ih;obtain⟨m0,m1⟩:0<=p*sumI sc.atoms/\p*sumI sc.atoms<=1000000*20:=⟨Int.mul_nonneg hp.1 t0,vh hp.2 t1 t0 (by omega)⟩;have w2:qi.wrap (p*sumI sc.atoms)=p*sumI sc.atoms:=qg (by omega) (by omega);have w3:qi.wrap (sumI (sc.atoms.take s)+sc.atoms[s])=sumI (sc.atoms.take s)+sc.atoms[s]:=qg (by omega) (by omega);generalize hF:(fun k:Nat=>tupR sc l (p*sumI sc.atoms+(sumI (sc.atoms.take s)+k)))=F at *
 have a4:∀ k:Nat,tupR sc l (p*sumI sc.atoms+(sumI (sc.atoms.take s)+k))=F k:=fun k=>by rw[<-hF]
 simp only[a4]at ih;simp[go_sem,hz];refine qm.intro (by kernel_rfl) ?_;simp[go_sem];refine qd.pure a0 a1 ?_;generalize hn:sumI sc.atoms=n at *
 generalize hf:sumI (sc.atoms.take s)=f at *
 simp[go_sem];refine qk.keep (fun m st=>∃ k,m=(sc.atoms[s]).toNat-k/\k<=(sc.atoms[s]).toNat/\st.tm 1 = .ip [lI (s :: l)]/\st.tm 2 = .ip [aI p]/\st.tm 3 = .ip [lI sc.atoms,aI sc.steps]/\st.tm 4 = .ip [.yl i]/\st.tm 5=aI f/\st.tm 6=aI (f+(k:Nat))/\I ((qt k).flatMap F).length st.mu) (sc.atoms[s]).toNat ?_ ?_
 .exact ⟨0,by omega,by omega,by simp[go_sem],by simp[go_sem],by simp[go_sem],by simp[go_sem],by simp[go_sem],by simp[go_sem],by simpa[go_sem] using h0⟩
 rintro m st ⟨k,rfl,hk,T,e2,U,e4,e5,e6,hI⟩;simp[go_sem];refine qm.intro (by kernel_rfl) ?_;by_cases P:k<(sc.atoms[s]).toNat
 .have hb:f+(k:Int)<f+sc.atoms[s]:=by omega
  have w4:qi.wrap (p*n+(f+k))=p*n+(f+k):=qg (by omega) (by omega);have w5:qi.wrap (f+(k:Int)+1)=f+((k+1:Nat):Int):=by rw[qg (by omega) (by omega)];omega
  have R:WKs [eSc sc,aI (p*n+(f+k)),.lst false (l.map rI)] [eSc sc,aI (p*n+(f+k)),lI l] := .cons (.hf (zA sc)) (.cons (.hf (HF.sc _)) (.cons (.hf (zi l)) .nil));have a5:=kL sc (p*n+(f+k)) l;simp[go_sem,T,U,e5,e6,C,w3,hb];refine qm.intro (by kernel_rfl) ?_;simp[go_sem,e2,U];refine qd.pure a2 a3 ?_;have a6:(1:Int)<=l.length+1:=by omega
  have a7:List.take l.length (l.map rI)=l.map rI:=zN (by simp);simp[go_sem,T,e6,w2,w4,a6,a7];refine⟨⟨_,_,⟨rfl,rfl⟩,(zX (s :: l)).ok⟩,?_⟩;refine qd.pure a5 R ?_;simp[go_sem];refine vV.keep (ih k P) (fun j M=>I (((qt k).flatMap F).length+j) M) (fun e M=>e = .ret/\Ix M) ?_ ?_ ?_ ?_ ?_ ?_
  .simpa [go_sem] using hS _ _ hI
  .intro j M h;exact hS _ _ h
  .rintro e M ⟨h1,h2⟩;exact⟨h1,hX _ h2⟩
  .rintro j x M hj a8
   rw[zp,yG]at hj;obtain⟨t,ht,rfl⟩:=hj;have r:(((qt (sc.atoms[s]).toNat).flatMap F).map fun t=>[aI t])[((qt k).flatMap F).length+j]?=some [aI t]:=by
    rw[zp,qeI F P ht];rfl
   rw[<-o]at r;refine⟨rfl,?_⟩;simp[go_sem,e4];refine qd.yield (hY _ _ _ r a8) ?_;rintro b af (⟨rfl,a9⟩|⟨rfl,aa⟩)
   .simp [go_sem]
    exact uL.intro a9
   .simp [go_sem]
    exact uL.intro ⟨rfl,aa⟩
  .rintro M ab
   simp[go_sem,e6,w5];refine Keep.loop ((sc.atoms[s]).toNat-(k+1)) (by omega) ⟨k+1,rfl,by omega,by simp[go_sem,T],by simp[go_sem,e2],by simp[go_sem,U],by simp[go_sem,e4],by simp[go_sem,e5],by simp[go_sem],?_⟩;rw[Ya,qX];simpa[go_sem] using ab
  .rintro e M ⟨rfl,h2⟩
   simp[go_sem];exact .inr h2
 .have ad:k=(sc.atoms[s]).toNat:=by omega
  have hb:¬f+(k:Int)<f+sc.atoms[s]:=by omega
  simp[go_sem,T,U,e5,e6,C,w3,hb];rw[o,<-ad];exact .inl hI
def bdT:Nat->Int
 | 0=>1000000000
 | 1=>1000000
 | 2=>40000
 |_=>1000
theorem kM(d:Nat)(i:d<3){p q n:Int}(j:0<=p)(l:p<=bdT (d+1))(g:0<=n)(o:n<=20)(r:0<=q)(t:q<=20):0<=p*n+q/\p*n+q<=bdT d/\p<=1000000:=by
 have a:0<=p*n:=Int.mul_nonneg j g;have b:p*n<=bdT (d+1)*20:=vh l o g (by omega)
 match d,i with
 | 0,_=>simp only[bdT]at *;omega
 | 1,_=>simp only[bdT]at *;omega
 | 2,_=>simp only[bdT]at *;omega
def OkS(sc:Sc)(l:List Int):Prop:=∀ s,s∈l->0<=s/\s<sc.atoms.length
theorem kN(sc:Sc)(g:GSc sc)(C:∀ a,a∈sc.atoms->0<=a):∀(l:List Int),OkS sc l->l.length<=3->∀ p:Int,0<=p->p<=bdT l.length->jm qc 249 [.ip [lI l],.ip [aI p],.ip [lI sc.atoms,aI sc.steps]] ((tupR sc l p).map fun t=>[aI t])
 | [],_,_,p,_,_=>qeG sc p
 |s :: l,i,I,p,j,o=>by
  obtain⟨n,rfl⟩:∃ n:Nat,s=n:=⟨s.toNat,by have:=(i s (by simp)).1;omega⟩;have r:n<sc.atoms.length:=by have:=(i n (by simp)).2;omega
  simp only[zu]at I o;obtain⟨t0,t1⟩:=g.sum sc.atoms.length;rw[q8]at t0 t1;refine qeJ sc g C n r l (by omega) p ⟨j,(kM l.length (by omega) j o t0 t1 (q:=0) (by omega) (by omega)).2.2⟩ fun k J=>?_
  obtain⟨u0,P⟩:=g.sum (n+1);rw[uG _ _ r]at P;rw[v6 r]at J;obtain⟨s0,s1⟩:=g.sum n;obtain⟨R,T,_⟩:=kM l.length (by omega) j o t0 t1 (q:=sumI (sc.atoms.take n)+k) (by omega) (by omega);exact kN sc g C l (fun x U=>i x (by simp[U])) (by omega) _ R T
theorem U8(sc:Sc)(g:GSc sc)(o:∀ a,a∈sc.atoms->0<=a):∀(l:List Int),OkS sc l->∀ p,(tupR sc l p).length<=20 ^ l.length
 | [],_,p=>by simp[tupR]
 |s :: l,i,p=>by
  obtain⟨n,rfl⟩:∃ n:Nat,s=n:=⟨s.toNat,by have:=(i s (by simp)).1;omega⟩;have j:n<sc.atoms.length:=by have:=(i n (by simp)).2;omega
  obtain⟨J,r⟩:=g.sum (n+1);obtain⟨P,s1⟩:=g.sum n;rw[uG _ _ j]at r;have t:=U8 sc g o l (fun x C=>i x (by simp[C]));rw[tupR,show (n:Int).toNat=n by omega,v6 j];have key:∀ m:Nat,((qt m).flatMap fun k:Nat=>tupR sc l (p*sumI sc.atoms+(sumI (sc.atoms.take n)+k))).length<=m*20 ^ l.length:=by
   intro m;induction m with
   |zero=>simp
   |succ m I =>
    rw[Ya,qX,Nat.succ_mul];have:=t (p*sumI sc.atoms+(sumI (sc.atoms.take n)+m));omega
  refine zY (key _) ?_;rw[zu,Nat.pow_succ,Nat.mul_comm];exact Nat.mul_le_mul_left _ (by omega)
theorem Yb(n a b:Int):qe qc 162 [aI n,aI a,aI b] (aB (decide (a<=n)&&decide (n<=b))):=by
 refine qSV call162 func162 rfl ?_;by_cases g:a<=n
 .simp [go_sem,g]
  exact .hf _ (HF.sc _)
 .simp [go_sem,g]
  exact .hf _ (HF.sc _)
theorem wk3I(a b c:Int):WKs [aI a,aI b,aI c] [aI a,aI b,aI c] := .cons (.hf (HF.sc _)) (.cons (.hf (HF.sc _)) (.cons (.hf (HF.sc _)) .nil))
theorem Yc(sc:Sc)(g:GSc sc)(hA:∀ a,a∈sc.atoms->0<=a)(l:List Int)(hs:OkS sc l)(h1:1<=l.length)(h3:l.length<=3):qe qc 110 [eSc sc,lI l] (eRel ⟨l.length,tupR sc l 0⟩):=by
 refine qSV call110 func110 rfl ?_;have b1:(1:Int)<=l.length:=by omega
 have b3:(l.length:Int)<=3:=by omega
 have hg:=g.1;have w1:=Yb l.length 1 3;rw[decide_eq_true b1,decide_eq_true b3]at w1;simp[go_sem];refine qd.pure w1 (wk3I _ _ _) ?_;simp[go_sem];refine qk.upK l.length (fun k st=>st.tm 1=lI l/\st.tm 2 = .ip [lI sc.atoms,aI sc.steps]/\st.tm 4 = .ptr 0 0/\st.tm 14=lI l/\st.tm 15=aI l.length/\st.tm 16=aI k/\st.mu=[.arr [aI 0,.lst true []]]) ?_ ?_
 .simp [go_sem]
 rintro k st hk ⟨e1,e2,e4,J,o,p,hm⟩;by_cases r:k<l.length
 .have wk:qi.wrap ((k:Int)+1)=(k:Int)+1:=qg (by omega) (by omega)
  have wl:qi.wrap ((sc.atoms.length:Int)-1)=(sc.atoms.length:Int)-1:=qg (by omega) (by omega);obtain⟨q0,q1⟩:=hs _ (qy r);have w2:=Yb l[k] 0 ((sc.atoms.length:Int)-1);rw[decide_eq_true q0,decide_eq_true (by omega:l[k]<=(sc.atoms.length:Int)-1)]at w2;simp[go_sem,e2,J,o,p,hm,r,wl];refine qd.pure w2 (wk3I _ _ _) ?_;simp[go_sem,p,r,wk];exact Keep.mk' ⟨by simp[go_sem,e1],by simp[go_sem,e2],by simp[go_sem,e4],by simp[go_sem,J],by simp[go_sem,o],by simp[go_sem],by simp[go_sem]⟩
 .have a0:k=l.length:=by omega
  subst a0;have a7:=U8 sc g hA l hs 0;have hp:20 ^ l.length<=8000:=by
   have:l.length=1\/l.length=2\/l.length=3:=by omega
   rcases this with h|h|h<;>rw[h]<;>omega
  have a1:(0:Int)<=bdT l.length:=by
   have:l.length=1\/l.length=2\/l.length=3:=by omega
   rcases this with h|h|h<;>rw[h]<;>simp[bdT]
  simp[go_sem,e1,e2,o,p,hm];refine qd.pure (kL sc 0 l) (.cons (.hf (zA sc)) (.cons (.hf (HF.sc _)) (.cons (.hf (zi l)) .nil))) ?_;simp[go_sem];refine vV.keep (kN sc g hA l hs h3 0 (by omega) a1) (fun j M=>RelM M l.length ((tupR sc l 0).take j)) (fun _ _=>False) ?_ ?_ ?_ ?_ ?_ ?_
  .exact ⟨.lst true [],by simp[go_sem],by simp[go_sem],.inl ⟨rfl,rfl⟩,by simp[qv],by simp[qv]⟩
  .rintro j M ⟨P,C,g1,i,R,U⟩
   exact⟨P,by rw[qx (qj.1 C).1];exact C,by rw[qx (qj.1 g1).1];exact g1,i.same fun b hb=>by rw[qx (i.v.lt hb)],R,U⟩
  .intro e M h;exact h
  .rintro j x M hj ⟨P,C,g1,i,R,U⟩
   rw[zp,yG]at hj;obtain⟨t,ht,rfl⟩:=hj;obtain⟨a2,a3⟩:=qj.1 ht;refine⟨rfl,?_⟩;simp[go_sem,g1];refine qD.ownV1 (e:=3) (bt:=8) (z:=0) (by simp[go_sem]) (by simp[go_sem]) (by simp[go_sem]) (by omega) i.v (by simp;omega) ?_;intro a8 a9 I a4 a5 a6;obtain⟨k1,k2⟩:=RelM.step C g1 R U I a4 a5 a6;simp[go_sem,k1,I.v.one,I.v.cells];refine uL.intro ?_;rw[uK a2,a3];exact k2
  .rintro M ⟨P,C,g1,i,R,U⟩
   rw[zH,q8]at i;have T:∀ c,(M.set 0 c)[0]?=some c:=fun c=>zr (qj.1 C).1
   simp[go_sem,e4,C,g1,T,i.v.one];refine OwnV.rdRel (i.v.same fun b hb=>?_);rw[zo (fun e=>R (by rw[e];exact hb))]
  .intro e M h;exact h.elim
end EW
namespace JC
theorem backX(f:Bool):Ux qc 297 [.ip [.lst f []]] []:=by
 refine⟨call297,fun i I p r g j=>?_⟩;refine qSW call297 func297 rfl {} ?_;simp[go_sem];refine qk.keep (fun _ st=>st.tm 3=aI (-1)/\st.mu=g) 0 ?_ ?_
 .simp [go_sem,qg]
 rintro _ st ⟨l,o⟩;simp[go_sem,l,o];exact .inl j
end JC
namespace GG
open ER
@[go_sem ↓] theorem qnL(P:qb)(pl:Pol)(l:List us)(Q:St->Prop)(o:AV->St->Prop)(k:Nat)(r:List Nat)(T:List (Nat×Nat×List Nat))(st:St)(i:Option Tmp)(op:Op)(ty:qf)(pos:String)(after:Array Edge)(j:Nat)(g:Bool) :
  segO P pl l Q o k r T st (some ⟨i,op,ty,pos,after,some (j,g)⟩)=wQ ((l[j]?).bind (·.dst)) st g (fun st=>segO P pl l Q o k r T st (some ⟨i,op,ty,pos,after,none⟩)) (fun st=>awpT P pl l.toArray Q o T (st.put i (.sc j2) st.mu)):=by
 simp only[segO,zI,wQ,vJ];congr 1;funext b;simp[brK,BrS,OptK,Br]
@[go_sem ↓] theorem qnM(P:qb)(pl:Pol)(l:List us)(st:St)(d:Tmp)(op:Op)(ty:qf)(pos:String)(after:Array Edge)(j:Nat)(g:Bool) :
  Jx P pl l st (some ⟨some d,op,ty,pos,after,some (j,g)⟩)=wQ ((l[j]?).bind (·.dst)) st g (fun st=>qA P pl true (some d) op st.ev st.mu (wM st d st.mu) noK) (fun _=>True):=by
 simp only[Jx,zI,wQ,vJ];congr 1
def subL:List (List AV)->List (List AV)->List (List (List AV))
 |c,[]=>[c]
 |c,x :: r=>subL c r++subL (c++[x]) r
def uM(l:List (List AV)):Prop:=∀ r,r∈l->r.length=3/\(r.all AV.one=true/\∀ x,x∈r->HF x)
theorem clipU(c:List (List AV))(i:uM c)(l:c.length<=1000000):qe qc 167 [.lst false c] (.lst true c):=by
 refine qSV call167 func167 rfl ?_;simp[go_sem];refine⟨⟨_,_,⟨rfl,rfl⟩,fun r g=>(i r g).1⟩,.hf _ (HF.lst fun r g x j=>(i r g).2.2 x j)⟩
abbrev extV(i b:Nat):AV := .fn (.func 166) [] [.ip [.yl i],.ptr b 0]
def ExtR(i b:Nat)(I:Nat->Mu->Prop)(g:Mu->Prop)(k:Nat)(e:AEnd)(m:Mu):Prop:=m[b]?=some (.arr [extV i b])/\((e = .ret (aB true)/\I k (m.set b .dead))\/(e = .ret (aB false)/\g (m.set b .dead)))
theorem extU{i b:Nat}{rows:List (List AV)}{I:Nat->Mu->Prop}{Ix:Mu->Prop}(hS:∀ k mu,I k mu->I k (mu++[.dead]))(hX:∀ mu,Ix mu->Ix (mu++[.dead]))(hY:Yld qc i rows I Ix) :
  ∀(r c:List (List AV)) (k:Nat) (mu:Mu),uM r->uM c->c.length+r.length<=1000->(∀(j:Nat) x,(subL c r)[j]?=some x->rows[k+j]?=some [.lst false x])->mu[b]?=some (.arr [extV i b])->I k (mu.set b .dead) ->
   qP qc 166 ([.lst false c,.lst false r]++[.ip [.yl i],.ptr b 0]) mu (ExtR i b I Ix (k+(subL c r).length))
 | [],c,k,mu,hr,hc,hl,J,hb,h0=>by
  refine qSW call166 func166 rfl {} ?_;simp[go_sem];have h1:=J 0 c rfl;refine qd.yield (wd.hid hb (by simp) (hY k _ _ h1 h0)) ?_;rintro bb m ⟨g,hm,hd,rfl⟩;have R:b<g.length:=(qj.1 hd).1;have a4:(g.set b (Cell.arr [extV i b])).set b .dead=g:=by
   rw[List.set_set];apply jy;intro j;by_cases U:j=b
   .subst U;rw[zr R];exact hd.symm
   .rw [zo (fun e=>U e.symm)]
  simp[go_sem];refine⟨by rw[zr R],?_⟩;rw[a4];rcases hm with ⟨rfl,hI⟩|⟨rfl,hI⟩
  .exact .inl ⟨rfl,hI⟩
  .exact .inr ⟨rfl,hI⟩
 |x :: r,c,k,mu,hr,hc,hl,J,hb,h0=>by
  have hx:=hr x (by simp);obtain⟨l,o,t,rfl⟩:∃ l o t,x=[l,o,t]:=by
   match x,hx.1 with
   | [a,b,c],_=>exact⟨a,b,c,rfl⟩
  refine qSW call166 func166 rfl {} ?_;have af:¬(r.length:Int)+1=0:=by omega
  simp[go_sem,af];refine qm.seg [0,1,2,3,4,5,6,7,9,10,11,12,14,15,8,13,16,17,18] [(0,0,[]),(1,0,[]),(2,0,[]),(3,0,[]),(4,1,[]),(5,0,[]),(6,0,[]),(7,0,[]),(9,0,[]),(10,0,[]),(11,0,[]),(12,0,[]),(14,0,[]),(15,0,[]),(8,1,[6,11]),(13,1,[6]),(16,1,[]),(17,0,[]),(18,0,[])] (by kernel_rfl) (by kernel_rfl) (by simp[go_sem]) ?_;have a5:(1:Int)<=(r.length:Int)+1:=by omega
  have a6:∃ e p,(235=e/\3=p)/\z6 p ([l,o,t] :: r):=⟨_,_,⟨rfl,rfl⟩,fun y C=>(hr y C).1⟩;simp[go_sem,hb,a5];refine⟨a6,?_⟩;have a7:uM r:=fun y C=>hr y (by simp[C])
  have a0:subL c ([l,o,t] :: r)=subL c r++subL (c++[[l,o,t]]) r:=rfl;have ag:=extU hS hX hY r c k mu a7 hc (by simp at hl;omega) (fun j y U=>J j y (by rw[a0,qx (qj.1 U).1];exact U)) hb h0;refine qd.eff (caps:=[.ip [.yl i],.ptr b 0]) ag ?_ (by rintro q m ⟨_,h|h⟩<;>exact absurd h.1 (by simp));rintro q g ⟨T,⟨hq,hI⟩|⟨hq,hI⟩⟩
  .cases hq
   have a9:l.one=true/\o.one=true/\t.one=true:=by have:=hx.2.1;simpa using this
   have ah:∀ y,y∈c->∀ z,z∈y->HF z:=fun y C=>(hc y C).2.2
   simp[go_sem,T,a5,a9];refine⟨a6,?_⟩;refine qd.pure (clipU c hc (by simp at hl;omega)) (.cons (.hf (HF.lst ah)) .nil) ?_;simp[go_sem,T];refine .inl ⟨150,150,235,3,24,[[l,o,t]],rfl,by simp[go_sem],by simp[go_sem],⟨.agg [aI 0,aI 0,aI 0],by simp[go_sem],rfl,rfl⟩,by omega,by omega,by simp[qM],fun y C=>by simp at C;subst C;exact⟨rfl,hx.2.1⟩,.inl ⟨c,rfl,fun y C=>⟨(hc y C).1,(hc y C).2.1⟩,by simp at hl;simp;omega,fun h=>absurd h (by simp),fun _=>?_⟩⟩;have R:b<g.length:=(qj.1 T).1;have ai:(c++[[l,o,t]]).flatten=c.flatten++[l,o,t]:=by simp
   generalize hM:g++[Cell.arr (c.flatten++[[l,o,t]].flatten)]=m2;have a1:g++[Cell.arr (c.flatten++[l,o,t])]=m2:=by rw[<-hM];simp
   have aj:m2[b]?=some (.arr [extV i b]):=by rw[<-hM,qx R];exact T
   have ak:m2[g.length]?=some (.arr (c++[[l,o,t]]).flatten):=by rw[<-a1,ai];simp
   have aa:(g++[Cell.arr (c.flatten++[l,o,t])])[b]?=some (.arr [extV i b]):=by rw[a1];exact aj
   simp[go_sem,aa];rw[a1];have ab:cutM (fun j=>!(j == g.length)) m2 0=g++[.dead]:=by
    apply jy;intro j;rw[jK,<-hM];by_cases U:j<g.length
    .rw [qx U,qx U,qz U]
     have:¬j=g.length:=by omega
     simp[this]
    .by_cases al:j=g.length
     .subst al;simp
     .rw [qV (by omega),qV (by omega)]
      obtain⟨d,hd⟩:∃ d,j-g.length=d+1:=⟨j-g.length-1,by omega⟩;rw[hd];rfl
   have a2:uM (c++[[l,o,t]]):=fun y C=>by
    rcases qG.1 C with h|h
    .exact hc y h
    .rw [qN]at h;subst h;exact hx
   have an:=extU hS hX hY r (c++[[l,o,t]]) (k+(subL c r).length) (g++[.dead]) a7 a2 (by simp at hl⊢;omega) (fun j y U=>by
    have:=J ((subL c r).length+j) y (by rw[a0,qV (by omega)];simpa using U);rw[<-this];congr 1;omega) (by rw[qx R];exact T) (by
    rw[List.set_append_left _ _ R];exact hS _ _ hI)
   have ao:Rd (cutM (fun j=>j == g.length) m2 0) (.sl g.length 3 0 (c.length+1)) (.lst false (c++[[l,o,t]])):=by
    have aq:(cutM (fun j=>j == g.length) m2 0)[g.length]?=some (.arr (c++[[l,o,t]]).flatten):=by rw[ki];exact ak
    have:=Own.rd (mu:=cutM (fun j=>j == g.length) m2 0) (sz:=3) (av := .sl g.length 3 0 (c++[[l,o,t]]).length) (.inr ⟨_,rfl,aq⟩) (fun y C=>(a2 y C).1) (fun y C=>(a2 y C).2.2);simpa using this
   have ar:qP qc 166 ([.sl g.length 3 0 (c.length+1),.lst false r]++[.ip [.yl i],.ptr b 0]) m2 (ExtR i b I Ix (k+(subL c r).length+(subL (c++[[l,o,t]]) r).length)):=
    qP.freeze (args:=[.sl g.length 3 0 (c.length+1),.lst false r,.ip [.yl i],.ptr b 0]) (args1:=[.lst false (c++[[l,o,t]]),.lst false r,.ip [.yl i],.ptr b 0]) (fun j=>j == g.length) ⟨.inr ao,.inl rfl,.inl rfl,.inl rfl,trivial⟩ (by rw[ab];exact an)
   refine qd.eff (caps:=[.ip [.yl i],.ptr b 0]) ar ?_ (by rintro q m ⟨_,h|h⟩<;>exact absurd h.1 (by simp));have ad:k+(subL c r).length+(subL (c++[[l,o,t]]) r).length=k+(subL c ([l,o,t] :: r)).length:=by rw[a0,qX];omega
   rw[ad];rintro q m ⟨ae,⟨hq,a3⟩|⟨hq,a3⟩⟩
   .cases hq
    simp[go_sem];exact⟨ae,.inl ⟨rfl,a3⟩⟩
   .cases hq
    simp[go_sem];exact⟨ae,.inr ⟨rfl,a3⟩⟩
  .cases hq
   simp[go_sem];exact⟨T,.inr ⟨rfl,hI⟩⟩
theorem qeK(l:List (List AV))(U:uM l)(hn:l.length<=1000):jm qc 165 [.ip [.lst false l]] ((subL [] l).map fun c=>[.lst false c]):=by
 refine jm.of call165 fun i I J P hX hY g h0=>?_
 refine qP.give ?_;refine qSW call165 func165 rfl {} ?_;simp[go_sem];have hx:=extU (i:=i) (b:=g.length) P hX hY l [] 0 (g++[.arr [extV i g.length]]) U (fun r t=>by simp at t) (by simpa using hn) (fun j x o=>by rw[yf,zp,o];rfl) (by simp) (by simpa using P 0 g h0);have hf:qP qc 166 ([.lst true [],.lst false l]++[.ip [.yl i],.ptr g.length 0]) (g++[.arr [extV i g.length]]) (ExtR i g.length I J (0+(subL [] l).length)):=
  qP.freeze (args:=[.lst true [],.lst false l,.ip [.yl i],.ptr g.length 0]) (args1:=[.lst false [],.lst false l,.ip [.yl i],.ptr g.length 0]) (fun _=>false) ⟨.inr (.wk _ true _ (.hf _ (HF.lst fun r t=>by simp at t))),.inl rfl,.inl rfl,.inl rfl,trivial⟩ (by rw[KX];exact hx)
 refine qd.eff (caps:=[.ip [.yl i],.ptr g.length 0]) hf ?_ (by rintro q m ⟨_,h|h⟩<;>exact absurd h.1 (by simp));rintro q m ⟨T,h⟩;have p:cutM (fun j=>!(j == g.length)) m 0=m.set g.length .dead:=by
  apply jy;intro j;rw[jK];by_cases o:j=g.length
  .subst o
   rw[T,zr (qj.1 T).1];simp
  .rw [zo (fun e=>o e.symm)]
   cases hm:m[j]? with
   |none=>rfl
   |some c=>simp[o]
 simp[go_sem];refine .inr ⟨fun j=>j == g.length,⟨_,.same _⟩,?_⟩;show I _ (cutM (fun j=>!(j == g.length)) m 0)\/J (cutM (fun j=>!(j == g.length)) m 0);rw[p];rw[yf]at h;rcases h with ⟨_,h⟩|⟨_,h⟩
 .exact .inl h
 .exact .inr h
theorem qeL(l:List (List AV))(i:uM l):qe qc 85 [.lst false l] (.fn (.func 165) [] [.ip [.lst false l]]):=by
 refine qSV call85 func85 rfl ?_;simp[go_sem];refine .hf _ (HF.fn (fun c g=>by simp at g) (fun c g=>?_));simp at g;subst g;exact w6 (HF.lst fun r j x o=>(i r j).2.2 x o)
end GG
namespace GA
theorem qeM{a:List Int}(h:a.Pairwise (·<·)):a.Nodup:=h.imp fun h=>by omega
section
variable {α:Type} {f:α->α->Int} {P:α->Prop}
end
end GA
namespace GB
structure Ed where
 kind:Int
 state:Int
 field:Int
 tup:Int
abbrev Sts:=List (List Rl)
def noR:Rl:=⟨0,[]⟩
end GB
namespace GC
end GC
namespace EU
end EU
namespace EC
end EC
namespace EY
end EY
namespace GD
open GB
theorem Qx(xs:List Int):(xs.map rI).flatten=xs.map aI:=by
 induction xs with
 |nil=>rfl
 |cons x xs g=>simp[g]
theorem qeN{G:Gh}{h:Array Obj}{xs:List Int}{v:zS}(r:VRel G h (lI xs) v):xs=[]/\(∃ a c,v = .slice a 0 c)\/xs≠[]/\∃ b off c arr e t,v = .slice (some ⟨b,off,none⟩) xs.length c/\h[b]?=some (.cells arr e t)/\∀ j,j<xs.length->arr[off+j]?=some (.int .i64 (xs.getD j 0)):=by
 by_cases C:xs=[]
 .subst C
  refine .inl ⟨rfl,?_⟩;change VRel G h (.lst false []) v at r;cases r with
  |nil=>exact⟨_,_,rfl⟩
  |emp _ a cap I=>exact⟨_,_,rfl⟩
  |lst _ _ p a cap T e t rd J P hl I hi hz R U=>exact⟨_,_,rfl⟩
 .refine .inr ⟨C,?_⟩
  change VRel G h (.lst false (xs.map rI)) v at r;generalize g:xs.map rI=l at r;have i:l.length=xs.length:=by rw[<-g];simp
  cases r with
  |nil=>simp at g;exact absurd g C
  |emp _ a cap I=>simp at g;exact absurd g C
  |lst _ _ p a cap T e t rd J P hl I hi hz R U =>
   obtain⟨b,off,a0⟩:=a;simp only at P J R;subst P;refine⟨b,off,cap,T,e,t,by rw[i],J,fun j hj=>?_⟩;have o:l.flatten[j]?=some (aI (xs.getD j 0)):=by
    rw[<-g];have:(xs.map rI).flatten=xs.map aI:=Qx xs;rw[this,zp,qz hj,List.getD_eq_getElem?_getD,qz hj];rfl
   have h1:=R j _ o;have h2:=U j _ o;generalize rd j=u at h1 h2;cases h2;exact h1
def U9(xs:List Int)(x:Int):Nat:=xs.countP (fun y=>decide (y<x))
theorem binU(xs:List Int)(x:Int)(hl:xs.length<=1000000000)(J:xs.Pairwise (·<=·)):qe qc 78 [lI xs,aI x] (.tup [aI (U9 xs x),aB (decide (x∈xs))]):=by
 refine⟨call78,fun i w vs I P=>?_⟩;obtain⟨u,v,rfl,R,T⟩:=P.two_inv;cases T;have g:∀ t:qh,VRel ⟨i,[]⟩ t.heap (.tup [aI (U9 xs x),aB (decide (x∈xs))]) (.tuple #[.int .i64 (U9 xs x:Nat),.bool (decide (x∈xs))]):=by
  intro t;refine .tup _ _ rfl (fun k y p=>?_);cases k with
  |zero=>simp at p;subst p;exact .sc _ rfl
  |succ k=>cases k with
   |zero=>simp at p;subst p;exact .sc _ rfl
   |succ k=>simp at p
 rcases qeN R with ⟨rfl,a,c,rfl⟩|⟨U,b,off,c,arr,e,fr,rfl,l,hc⟩
 .refine (Tryz.slices_BinarySearch_int_empty a c x w).mono fun e t ⟨r,C⟩=>?_
  subst C;refine⟨i,_,r,fun _ h=>h,fun b l=>⟨I.imm b l,.inl l⟩,⟨RowKit.Below.refl _ _,qs _⟩,?_⟩;exact g _
 .have o:∀ j,j<xs.length->w.cell? ⟨b,off+j,none⟩=some (.int .i64 (xs.getD j 0)):=by
   intro j hj;simp only[World.cell?,l,Option.isSome_none,Bool.false_eq_true,if_false];exact hc j hj
  refine(Tryz.slices_BinarySearch_int b off xs.length c xs x w (qs _) (by omega) o (by rw[q8];exact J)).mono fun e t ⟨r,q,C⟩=>?_
  subst C;rw[q8]at r;have e2:xs.contains x=decide (x∈xs):=by
   rw[vL];simp
  rw[e2]at r;refine⟨i,_,r,fun _ h=>h,fun b l=>⟨I.imm b l,.inl l⟩,⟨⟨rfl,rfl,rfl,qs _,fun _ _=>rfl⟩,Nat.le_add_right _ _⟩,?_⟩;exact g _
theorem qeO(f:j1):HF (.fn (.func f) [] []):=HF.fn (fun c g=>by simp at g) (fun c g=>by simp at g)
structure SmS (S:Sts):Prop where
 n:S.length<=1000
 f:∀ s,s∈S->s.length<=1000
 t:∀ s,s∈S->∀ r,r∈s->r.ts.length<=1000/\r.ts.Pairwise (·<·)
end GD
namespace EZ
end EZ
namespace Y10
open Y2 P1 Y9
theorem Q0(ts:TS):∀ k,k<=ts.preds.length->(tmsL ts k).length=k
 | 0,_=>rfl
 |k+1,h=>by
  have g:k<ts.preds.length:=by omega
  simp[tmsL,Q0 ts k (by omega),qz g]
theorem uN{ts:TS}(h:okTS ts){k:Nat}(g:k<=ts.preds.length):okCk (mkCk ts k):=⟨h,g,Nat.le_of_eq (Q0 ts k g).symm⟩
theorem kO(a b:ByteArray):(a.toList == b.toList)=decide (a=b):=by
 by_cases h:a=b
 .subst h;simp
 .rw [jO h,decide_eq_false h]
theorem Wa{mu:Mu}{sz:Nat}{s:AV}{xs:List (List AV)}(h:Own mu sz s xs)(c:Cell):Own (mu++[c]) sz s xs:=by
 rcases h with rfl|⟨b,rfl,g⟩
 .exact .inl rfl
 .exact .inr ⟨b,rfl,by rw[qx (qj.1 g).1];exact g⟩
end Y10
namespace Y11
open Y1 Y2 P1
def cKo:Option Kd->List AV
 |some k=>cKd k
 |none=>[aI 0,.sc (.map none)]
@[go_sem] theorem cKo_some(k:Kd):cKo (some k)=cKd k:=rfl
@[go_sem] theorem cKo_none:cKo none=[aI 0,.sc (.map none)]:=rfl
def endK:Res->AEnd
 | .ok k => .ret (.agg (cKo k))
 | .error e => .pan (JT e.1 e.2)
@[go_sem] theorem endK_ok(k:Option Kd):endK (.ok k) = .ret (.agg (cKo k)):=rfl
@[go_sem] theorem qnN(e:Dg):endK (.error e) = .pan (JT e.1 e.2):=rfl
end Y11
namespace Y12
open Y2 P1 Y6 Y8
def trF(t:Tp):Tp:=[t.getD 1 0,t.getD 0 0,0]
theorem Wb{a:List Tp}{t:Tp}:t∈uni [] (a.map fun t=>[t.getD 1 0,t.getD 0 0,0])↔∃ x,x∈a/\trF x=t:=by
 rw[vq];simp[trF]
structure ApOk (op:Int) (l:List (Option Kd)):Prop where
 one:op=5->∃ a,l=[a]
 bin:op=11\/op=12\/op=13->∃ a,l=[some a]/\okK a/\(a.ar=2->ok2 a)
 two:op=6\/op=14\/op=7\/op=8\/op=32\/op=33\/op=9\/op=10->∃ a b,l=[some a,some b]/\okK a/\okK b
theorem Wc{ns:Nat}{op n pos:Int}{l:List (Option Kd)}(i:op≠2)(j:op≠3)(o:op≠4)(p:op≠5)(r:op≠11)(t:op≠12)(C:op≠13)(t1:op≠6)(t2:op≠14)(t3:op≠7)(t4:op≠8)(t5:op≠32)(t6:op≠33)(I:op≠9)(g:op≠10):zL ns op n pos l = .ok none:=by
 unfold zL;rw[if_neg i,if_neg j,if_neg o];split
 .simp only[p,r,t,C,or_self,if_false]
  split<;>rfl
 .simp only[t1,t2,t3,t4,t5,t6,I,g,or_self,if_false]
 .rfl
end Y12
namespace P2
open Y1 Y2 Y3 P1 Y6 Y8 Y9 Y12
section
variable {a b k:Kd}{l:List Int}{ns:Nat}
def kd(op:Int):Int:=if 1<=op/\op<=15 then 101 else if 20<=op/\op<=23 then 105 else if 30<=op/\op<=51 then 102 else 0
def shp(op:Int)(nk:Nat):Option (List Int):=
 if op=1\/op=2\/op=3\/op=4\/op=20\/op=30\/op=31 then some []
 else if op=5\/op=11\/op=12\/op=13\/op=21\/op=34\/op=35\/op=36\/op=37 then some [101]
 else if op=6\/op=7\/op=8\/op=9\/op=10\/op=14\/op=32\/op=33 then some [101,101]
 else if op=15\/op=45\/op=46 then some [101,102]
 else if op=22\/op=23\/op=38\/op=39 then some [105,105]
 else if op=40\/op=48\/op=49\/op=50 then some [102]
 else if op=41\/op=42\/op=43\/op=44\/op=51 then some [102,102]
 else if op=47 then some (zt (min nk 401) 101)
 else none
inductive WfN:Nd->Prop where
 |mk (n:Nd) (h:shp n.op n.kids.length=some (n.kids.map fun k=>kd k.op)) (hn:n.op=2->1<=n.n/\n.n<=3) (hk:∀ k,k∈n.kids->WfN k):WfN n
theorem WfN.shape{n:Nd}(h:WfN n):shp n.op n.kids.length=some (n.kids.map fun k=>kd k.op):=by cases h;assumption
theorem WfN.num{n:Nd}(h:WfN n):n.op=2->1<=n.n/\n.n<=3:=by cases h;assumption
theorem WfN.kid{n k:Nd}(h:WfN n)(g:k∈n.kids):WfN k:=by
 cases h with
 |mk _ _ _ h=>exact h k g
theorem kP{op:Int}{nk:Nat}(h:shp op nk=some l):l.length<=401:=by
 unfold shp at h
 repeat' (split at h)
 all_goals try cases h
 all_goals try simp
 all_goals try omega
theorem WfN.len{n:Nd}(h:WfN n):n.kids.length<=401:=by
 have:=kP h.shape;simpa using this
theorem WfN.small{n:Nd}(h:WfN n):Small n:=by
 induction h with
 |mk n g j l i=>exact .mk n (by have:=kP g;simp at this;omega) i
structure okKd (ns:Nat) (k:Kd):Prop where
 ar:1<=k.ar/\k.ar<=3
 nd:k.ts.Nodup
 ts:∀ t,t∈k.ts->∃ l,t=pad l/\(l.length:Int)=k.ar/\∀ x,x∈l->0<=x/\x<ns
theorem okKd.okK(h:okKd ns k):okK k:=⟨h.ar,fun t g=>by obtain⟨l,rfl,_⟩:=h.ts t g;rfl,h.nd⟩
theorem okKd.ok2(h:okKd ns k)(o:ns<=4)(g:k.ar=2):ok2 k:=⟨g,h.nd,fun t p=>by
 obtain⟨l,rfl,i,j⟩:=h.ts t p;rw[g]at i
 match l,i with
 | [x,y],_ =>
  have r:=j x (by simp);have g:=j y (by simp);exact⟨x,y,rfl,by omega,by omega,by omega,by omega⟩⟩
theorem okKd.of2(j:k.ar=2)(g:k.ts.Nodup)(h:∀ t,t∈k.ts->∃ x y:Int,t=[x,y,0]/\0<=x/\x<ns/\0<=y/\y<ns):okKd ns k:=⟨by omega,g,fun t l=>by
 obtain⟨x,y,rfl,o,p,r,C⟩:=h t l;exact⟨[x,y],rfl,by rw[j];rfl,fun z i=>by simp at i;rcases i with rfl|rfl<;>omega⟩⟩
theorem okKd.pairs(h:okKd ns k)(g:k.ar=2):∀ t,t∈k.ts->∃ x y:Int,t=[x,y,0]/\0<=x/\x<ns/\0<=y/\y<ns:=fun t p=>by
 obtain⟨l,rfl,i,j⟩:=h.ts t p;rw[g]at i
 match l,i with
 | [x,y],_ =>
  have o:=j x (by simp);have g:=j y (by simp);exact⟨x,y,rfl,o.1,o.2,g.1,g.2⟩
theorem J2(j:1<=l.length)(o:l.length<=3)(i:∀ x,x∈l->0<=x/\x<ns):okKd ns (kOf l):=
 ⟨by simp only[kOf];omega,by simp[kOf],fun t g=>by
  have g:t∈[pad l]:=g;rw[qN]at g;exact⟨l,g,rfl,i⟩⟩
theorem qeP{n:Int}(h:1<=n/\n<=3):okKd ns ⟨n,[]⟩:=⟨h,by simp,fun t g=>by simp at g⟩
theorem Wd(ns g:Nat)(C:1<=g)(I:g<=3):okKd ns (zx ns g):=by
 refine⟨by simp only[zx];omega,?_,fun t l=>?_⟩
 .refine List.pairwise_map.2 ((List.pairwise_iff_getElem.2 fun i j o J p=>?_))
  simp only[List.getElem_range];obtain⟨a,rfl⟩:∃ a,g=a+1:=⟨g-1,by omega⟩;intro e;simp[pad,List.replicate_succ]at e;omega
 .have l:t∈(qt ns).map fun (i:Nat)=>pad (zt g (i:Int)):=l
  obtain⟨i,o,rfl⟩:=qp.1 l;rw[yk]at o;exact⟨_,rfl,by simp[zx],fun x r=>by rw[List.eq_of_mem_replicate r];omega⟩
theorem Yd(i:okKd ns a)(j:okKd ns b)(h:a.ar=b.ar):okKd ns (kSum a b):=by
 refine⟨i.ar,Z4 (Z4 (by simp)),fun t g=>?_⟩;have g:t∈uni (uni [] a.ts) b.ts:=g;simp only[vq,qI,false_or]at g;rcases g with g|g
 .exact i.ts t g
 .obtain ⟨l,e,o,p⟩:=j.ts t g
  exact⟨l,e,by rw[o,<-h];rfl,p⟩
theorem qeQ(g:okKd ns a):okKd ns (Qw a b):=
 ⟨g.ar,g.nd.filter _,fun t i=>g.ts t (y9.1 i).1⟩
theorem qeR{op:Int}(g:okKd ns a)(i:okKd ns b)(h:a.ar=b.ar):okKd ns (ub op a b):=by
 unfold ub;split
 .exact Yd g i h
 .split
  .exact qeQ g
  .exact g
theorem wo(h:l.length<=3)(k:Nat)(g:k<=l.length):(pad l).take k=l.take k:=by
 match l,h with
 | [],_=>simp at g;subst g;rfl
 | [a],_=>match k,g with
  | 0,_=>rfl
  | 1,_=>rfl
 | [a,b],_=>match k,g with
  | 0,_=>rfl
  | 1,_=>rfl
  | 2,_=>rfl
 | [a,b,c],_=>match k,g with
  | 0,_=>rfl
  | 1,_=>rfl
  | 2,_=>rfl
  | 3,_=>rfl
theorem Ye{g i:List Int}(j:g.length<=3)(l:i.length<=3)(s:Nat):conc (pad g) g.length (pad i) i.length s=pad (g.take (g.length-s)++i.drop s):=by
 unfold conc;rw[wo j _ (by omega),wo l _ (qs _),q8]
theorem Yf(o:okKd ns a)(p:okKd ns b)(C:1<=a.ar+b.ar-2)(I:a.ar+b.ar-2<=3):okKd ns (zD a b):=by
 refine⟨⟨C,I⟩,qdJ,fun t J=>?_⟩;obtain⟨x,y,⟨P,R⟩,hf⟩:=wZ.1 J;obtain⟨i,rfl,T,j⟩:=o.ts x P;obtain⟨r,rfl,U,l⟩:=p.ts y R;have a0:=o.ar;have a1:=p.ar;unfold UY at hf;split at hf
 .simp only[qo]at hf
  rw[show a.ar.toNat=i.length by omega,show b.ar.toNat=r.length by omega,Ye (by omega) (by omega)]at hf;refine⟨_,hf.symm,?_,fun z g=>?_⟩
  .show ((i.take (i.length-1)++r.drop 1).length:Int)=a.ar+b.ar-2
   simp only[qX,vK,List.length_drop];omega
  .rcases qG.1 g with g|g
   .exact j z (vg g)
   .exact l z (List.mem_of_mem_drop g)
 .exact absurd hf (by simp)
theorem qeS(o:okKd ns a)(p:okKd ns b)(C:a.ar+b.ar<=3):okKd ns (v8 a b):=by
 have I:=o.ar;have J:=p.ar;refine⟨⟨by simp only[v8];omega,C⟩,qdK,fun t P=>?_⟩;obtain⟨x,y,⟨R,T⟩,hf⟩:=Z6.1 P;obtain⟨i,rfl,U,j⟩:=o.ts x R;obtain⟨r,rfl,a0,l⟩:=p.ts y T;unfold wm at hf;simp only[qo]at hf;rw[show a.ar.toNat=i.length by omega,show b.ar.toNat=r.length by omega,Ye (by omega) (by omega)]at hf;refine⟨_,hf.symm,?_,fun z g=>?_⟩
 .show ((i.take (i.length-0)++r.drop 0).length:Int)=a.ar+b.ar
  simp only[qX,vK,List.length_drop];omega
 .rcases qG.1 g with g|g
  .exact j z (vg g)
  .exact l z (List.mem_of_mem_drop g)
theorem qeT(g:okKd ns a)(i:a.ar=2):okKd ns (kTr a):=by
 refine okKd.of2 rfl (Z4 (by simp)) (fun t j=>?_);obtain⟨x,l,rfl⟩:=Wb.1 j;obtain⟨p,q,rfl,o,r,C,I⟩:=g.pairs i x l;exact⟨q,p,rfl,C,I,o,r⟩
theorem J3(i:okKd ns a)(g:a.ar=2):okKd ns (kClo a)/\(kClo a).ar=2:=by
 have:∀(f n:Nat) (a:Kd),okKd ns a->a.ar=2->okKd ns (cloN f n a)/\(cloN f n a).ar=2:=by
  intro f;induction f with
  |zero=>intro n a h g;exact⟨h,g⟩
  |succ f j =>
   intro n a h g;unfold cloN;split
   .exact j _ _ (Yd h (Yf h h (by omega) (by omega)) (by simp only[zD];omega)) g
   .exact ⟨h,g⟩
 exact this 70 0 a i g
theorem qeU{op:Int}(g:okKd ns a)(i:a.ar=2):okKd ns (binK ns op a):=by
 unfold binK;split
 .exact (J3 g i).1
 .split
  .exact Yd (J3 g i).1 (Wd ns 2 (by omega) (by omega)) (by rw[(J3 g i).2];rfl)
  .exact qeT g i
def ScOk(ns:Nat)(s:Scp):Prop:=∀ v,v∈s->okKd ns v.2/\v.2.ar=1
theorem kQ{nm:ByteArray}:∀{s:Scp} {v:ByteArray×Kd} {r:Scp},jE nm s=v :: r->v∈s
 | [],v,r,h=>by simp[jE]at h
 |w :: s,v,r,h=>by
  unfold jE at h;split at h
  .cases h;exact qU
  .exact qO _ (kQ h)
theorem qeV{ts:TS}(h:okTS ts){nm:ByteArray}{k:Kd}(g:k∈means ts nm):okKd ts.sorts.length k:=by
 unfold means at g;rcases qG.1 g with g|g
 .unfold j7 at g
  obtain⟨f,hf,e⟩:=List.mem_filterMap.1 g;split at e
  .cases e
   have:=h.fl f hf;exact J2 this.1 this.2.1 this.2.2
  .exact absurd e (by simp)
 .have:∀(j:List (ByteArray×Bool)) (i:Nat),i+j.length<=ts.sorts.length->∀ k,k∈ua i j nm->okKd ts.sorts.length k:=by
   intro j;induction j with
   |nil=>intro i _ k g;simp[ua]at g
   |cons s j p =>
    intro i r k g;simp only[zu]at r;have o:okKd ts.sorts.length (kOf [(i:Int)]):=J2 (by simp) (by simp) (fun x l=>by simp at l;subst l;omega);have t:okKd ts.sorts.length (kOf [(i:Int),(i:Int)]):=J2 (by simp) (by simp) (fun x l=>by simp at l;subst l;omega);simp only[ua,wX,qG]at g;rcases g with (g|g|g)|g
    .split at g<;>simp at g;subst g;exact o
    .split at g<;>simp at g;subst g;exact o
    .split at g<;>simp at g;subst g;exact t
    .exact p (i+1) (by omega) k g
  exact this ts.sorts 0 (by omega) k g
theorem yy(c:Ck)(s:Scp)(inn:Bool)(n:Nd):exam c s inn n =
  if (inn&&zK c n.op n.name)=true then .error (46,n.pos)
  else if n.op=1 then yY c s n.name n.pos
  else if n.op=47 then
   if (c.ts.preds.any fun p=>decide (p.name=n.name))=true then
    match zf c n.name with
    |none => .error (45,n.pos)
    |some p=>match c.ts.preds[p]? with
     |none => .error (45,n.pos)
     |some g=>if g.params.length=n.kids.length then ya c s n.pos g.params n.kids else .error (45,n.pos)
   else .error (40,n.pos)
  else if n.op=15\/n.op=45\/n.op=46 then zM c s (inn||decide (n.op=15)) n.name n.pos n.kids
  else match qS c s (inn||decide (n.op=12)||decide (n.op=13)) n.kids with
   | .error e => .error e
   | .ok l=>zL c.ts.sorts.length n.op n.n n.pos l:=by
 obtain⟨op,t,k,ks,pos⟩:=n;simp only[exam,Nd.op,Nd.name,Nd.n,Nd.kids,Nd.pos];rfl
theorem J4{c:Ck}{s:Scp}{inn:Bool}:∀{ks:List Nd} {l:List (Option Kd)},qS c s inn ks = .ok l->l.length=ks.length/\∀(i:Nat) k a,ks[i]?=some k->l[i]?=some a->exam c s inn k = .ok a
 | [],l,h=>by simp only[qS,jI]at h;subst h;simp
 |k :: ks,l,h=>by
  simp only[qS]at h;cases g:exam c s inn k with
  |error e=>rw[g]at h;exact absurd h (by simp)
  |ok a =>
   rw[g]at h;simp only at h;cases j:qS c s inn ks with
   |error e=>rw[j]at h;exact absurd h (by simp)
   |ok r =>
    rw[j]at h;simp only[jI]at h;subst h;obtain⟨t,C⟩:=J4 j;refine⟨by simp[t],fun i I J o p=>?_⟩;cases i with
    |zero=>simp at o p;subst o;subst p;exact g
    |succ i=>exact C i I J (by simpa using o) (by simpa using p)
theorem J5{op:Int}(h:kd op=101):1<=op/\op<=15:=by
 unfold kd at h;split at h
 .assumption
 .split at h
  .exact absurd h (by omega)
  .split at h<;>exact absurd h (by omega)
theorem kR(C:ns<=4){n:Nd}(R:WfN n){l:List (Option Kd)}(p:l.length=n.kids.length)(h:∀(i:Nat) k a,n.kids[i]?=some k->l[i]?=some a->kd k.op=101->∃ q,a=some q/\okKd ns q) :
  ApOk n.op l/\(n.op=5->∃ a,l=[some a]/\okKd ns a)/\(n.op=11\/n.op=12\/n.op=13->∃ a,l=[some a]/\okKd ns a)/\(n.op=6\/n.op=14\/n.op=7\/n.op=8\/n.op=32\/n.op=33\/n.op=9\/n.op=10->∃ a b,l=[some a,some b]/\okKd ns a/\okKd ns b):=by
 have g:=R.shape;have r:n.op=5\/n.op=11\/n.op=12\/n.op=13->∃ a,l=[some a]/\okKd ns a:=by
  intro j;have e:shp n.op n.kids.length=some [101]:=by
   unfold shp;rw[if_neg (by omega),if_pos (by omega)]
  rw[e]at g;simp only[qo]at g
  match o:n.kids,g with
  | [k],g =>
   simp at g;rw[o]at p
   match l,p with
   | [a],_ =>
    obtain⟨q,rfl,I⟩:=h 0 k a (by rw[o];rfl) rfl g.symm;exact⟨q,rfl,I⟩
  | [],g=>simp at g
  |_ :: _ :: _,g=>simp at g
 have P:n.op=6\/n.op=14\/n.op=7\/n.op=8\/n.op=32\/n.op=33\/n.op=9\/n.op=10->∃ a b,l=[some a,some b]/\okKd ns a/\okKd ns b:=by
  intro j;have e:shp n.op n.kids.length=some [101,101]:=by
   unfold shp;rw[if_neg (by omega),if_neg (by omega),if_pos (by omega)]
  rw[e]at g;simp only[qo]at g
  match o:n.kids,g with
  | [k,T],g =>
   simp at g;rw[o]at p
   match l,p with
   | [a,b],_ =>
    obtain⟨q,rfl,I⟩:=h 0 k a (by rw[o];rfl) rfl g.1.symm;obtain⟨U,rfl,J⟩:=h 1 T b (by rw[o];rfl) rfl g.2.symm;exact⟨q,U,rfl,I,J⟩
  | [],g=>simp at g
  | [_],g=>simp at g
  |_ :: _ :: _ :: _,g=>simp at g
 refine⟨⟨fun j=>?_,fun j=>?_,fun j=>?_⟩,fun j=>r (.inl j),fun j=>r (.inr j),P⟩
 .obtain ⟨a,rfl,_⟩:=r (.inl j);exact⟨_,rfl⟩
 .obtain ⟨a,rfl,t⟩:=r (.inr j);exact⟨a,rfl,t.okK,t.ok2 C⟩
 .obtain ⟨a,b,rfl,t,hb⟩:=P j;exact⟨a,b,rfl,t.okK,hb.okK⟩
theorem uO{c:Ck}(P:okCk c):∀(m:Nat) (n:Nd) (s:Scp) (inn:Bool) (T:Option Kd),szN n<=m->WfN n->ScOk c.ts.sorts.length s->exam c s inn n = .ok T->kd n.op=101->∃ k,T=some k/\okKd c.ts.sorts.length k
 | 0,n,_,_,_,hm,_,_,_,_=>by obtain⟨op,nm,i,ks,p⟩:=n;simp[szN]at hm
 |m+1,n,s,inn,T,hm,C,U,h,a0=>by
  have ho:=J5 a0;have a3:=P.ts.ns;rw[yy]at h;split at h
  .exact absurd h (by simp)
  split at h
  .unfold yY at h
   split at h
   .rename_i v r hf
    simp only[jI]at h;exact⟨v.2,h.symm,(U v (kQ hf)).1⟩
   .split at h
    .exact absurd h (by simp)
    .rename_i k I
     simp only[jI]at h;exact⟨k,h.symm,qeV P.ts (by rw[I];simp)⟩
    .exact absurd h (by simp)
  split at h
  .omega
  split at h
  .rename_i R
   have g:=C.shape;have e:shp n.op n.kids.length=some [101,102]:=by
    unfold shp;rw[if_neg (by omega),if_neg (by omega),if_neg (by omega),if_pos (by omega)]
   rw[e]at g;simp only[qo]at g
   match I:n.kids,g with
   | [a,f],g =>
    simp at g;rw[I]at h;simp only[zM]at h;cases hq:exam c s (inn||decide (n.op=15)) a with
    |error e=>rw[hq]at h;exact absurd h (by simp)
    |ok q =>
     obtain⟨k,rfl,a4⟩:=uO P m a s _ q (by have:=yx (n:=n) (k:=a) (by rw[I];simp);omega) (C.kid (by rw[I];simp)) U hq g.1.symm;rw[hq]at h;simp only at h;split at h
     .split at h
      .exact absurd h (by simp)
      .simp only[jI]at h
       exact⟨k,h.symm,a4⟩
     .exact absurd h (by simp)
   | [],g=>simp at g
   | [_],g=>simp at g
   |_ :: _ :: _ :: _,g=>simp at g
  .rename_i n1 a8 nb
   cases hl:qS c s (inn||decide (n.op=12)||decide (n.op=13)) n.kids with
   |error e=>rw[hl]at h;exact absurd h (by simp)
   |ok l =>
    rw[hl]at h;simp only at h;obtain⟨J,a6⟩:=J4 hl;obtain⟨_,a5,a1,a2⟩:=kR (ns:=c.ts.sorts.length) a3 C J (fun i k a hi j a7=>uO P m k s _ a (by have:=yx (n:=n) (q9 hi);omega) (C.kid (q9 hi)) U (a6 i k a hi j) a7);unfold zL at h;split at h
    .rename_i h2
     simp only[jI]at h;exact⟨_,h.symm,qeP (C.num h2)⟩
    split at h
    .simp only[jI]at h
     exact⟨_,h.symm,Wd _ 1 (by omega) (by omega)⟩
    split at h
    .simp only[jI]at h
     exact⟨_,h.symm,Wd _ 2 (by omega) (by omega)⟩
    have t:n.op=5\/(n.op=11\/n.op=12\/n.op=13)\/(n.op=6\/n.op=14\/n.op=7\/n.op=8\/n.op=32\/n.op=33\/n.op=9\/n.op=10):=by omega
    rcases t with h5|h1|h2
    .obtain ⟨a,rfl,j⟩:=a5 h5
     simp only[if_pos h5,jI]at h;exact⟨a,h.symm,j⟩
    .obtain ⟨a,rfl,j⟩:=a1 h1
     have n5:n.op≠5:=by omega
     simp only[if_neg n5,if_pos h1]at h;split at h
     .simp only[jI]at h
      exact⟨_,h.symm,qeU j (by assumption)⟩
     .exact absurd h (by simp)
    .obtain ⟨a,b,rfl,j,R⟩:=a2 h2
     simp only at h;split at h
     .split at h
      .simp only[jI]at h
       exact⟨_,h.symm,qeR j R (by assumption)⟩
      .exact absurd h (by simp)
     .split at h
      .split at h
       .rename_i hj
        simp only[jI]at h;exact⟨_,h.symm,Yf j R hj.1 hj.2⟩
       .exact absurd h (by simp)
      .split at h
       .split at h
        .simp only[jI]at h
         exact⟨_,h.symm,qeS j R (by assumption)⟩
        .exact absurd h (by simp)
       .omega
end
end P2
namespace EA
end EA
namespace F2
end F2
namespace F3
end F3
namespace F4
open E3 EO EQ F1
section
variable {av:AV}{xs:List (List AV)}{mu:Mu}{sz:Nat}
theorem Own.one(h:Own mu sz av xs):av.one=true:=by
 rcases h with rfl|⟨b,rfl,_⟩<;>rfl
theorem Own.cells(h:Own mu sz av xs):av.cells=[av]:=by
 rcases h with rfl|⟨b,rfl,_⟩<;>rfl
theorem Own.push(h:Own mu sz av xs)(c:List Cell):Own (mu++c) sz av xs:=by
 rcases h with rfl|⟨b,rfl,g⟩
 .exact .inl rfl
 .exact .inr ⟨b,rfl,by rw[qx (qj.1 g).1];exact g⟩
theorem Own.set(h:Own mu sz av xs){i:Nat}(c:Cell)(g:qv av≠some i):Own (mu.set i c) sz av xs:=by
 rcases h with rfl|⟨b,rfl,j⟩
 .exact .inl rfl
 .exact .inr ⟨b,rfl,by rw[zo (fun e=>g (by rw[e];rfl))];exact j⟩
theorem Own.lt(h:Own mu sz av xs){b:Nat}(g:qv av=some b):b<mu.length:=by
 rcases h with rfl|⟨j,rfl,i⟩
 .cases g
 .cases g;exact(qj.1 i).1
theorem qD.ownB{P:qb}{t g e bt:Nat}{s x:AV}{ys:List (List AV)}{zv:AV}{K:AV->Mu->Prop}(U:qC P t=some (e,sz,bt))(j:(qC P g).isSome=true)(hz:qB P e=some zv)
  (o:zv.cells.length=sz) (p:zv.cells.all AV.one=true) (r:sz≠0) (hb:bt<=16384) (ho:Own mu sz s xs) (hx:qM mu x=some ys) (R:zj sz xs) (wy:zj sz ys) (T:xs.length+ys.length<=4294967296)
  (k:∀ av l,Own l sz av (xs++ys)->(∀ i,i<mu.length->qv s≠some i->l[i]?=mu[i]?)->(∀ b,qv av=some b->b=mu.length)->mu.length<=l.length->K av l):qD P mu #[t,g] s x K:=by
 refine .inl ?_;refine⟨t,g,e,sz,bt,ys,rfl,U,j,⟨zv,hz,o,p⟩,r,hb,hx,wy,?_⟩;rcases ho with rfl|⟨b,rfl,hc⟩
 .refine .inl ⟨xs,rfl,R,T,fun h=>?_,fun h=>?_⟩
  .subst h
   exact k _ _ (.inl (by simp)) (fun _ _ _=>rfl) (fun b h=>by cases h) (qs _)
  .refine k _ _ (.inr ⟨mu.length,by simp,by simp⟩) (fun i C _=>?_) (fun b h=>by cases h;rfl) (by simp)
   rw[qx C]
 .have a0:=zZ R.ok
  refine .inr ⟨b,xs.length,xs.flatten,rfl,hc,by omega,T,?_⟩;have I:xs.flatten.take (xs.length*sz)=xs.flatten:=zN (by omega);refine k _ _ (.inr ⟨mu.length,by simp,?_⟩) (fun i C J=>?_) (fun b h=>by cases h;rfl) (by simp)
  .rw [I,qV (by simp)];simp
  .rw [qx (by simpa using C)]
   rw[zo (fun e=>J (by rw[e];rfl))]
abbrev rB(b:Bool):List AV:=[aB b]
def endL:XE (List Bool)->AEnd
 | .ok l => .ret (lB l)
 | .error e => .pan (errV e)
@[go_sem] theorem endL_ok(l:List Bool):endL (.ok l) = .ret (lB l):=rfl
@[go_sem] theorem endL_err(e:Int):endL (.error e) = .pan (errV e):=rfl
end
end F4
namespace F5
end F5
namespace F6
end F6
namespace F7
end F7
namespace F8
end F8
namespace E8
end E8
namespace EB
end EB
namespace EK
end EK
namespace F9
end F9
namespace FA
end FA
namespace FB
end FB
namespace FC
end FC
namespace E9
theorem kS(sc:Sc)(g:GSc sc):qe qc 18 [eSc sc] (aI (sumI sc.atoms)):=by
 refine qSV call18 func18 rfl ?_;simp[go_sem];refine qk.up sc.atoms.length (fun k st=>st.tm 1 = .ip [lI sc.atoms,aI sc.steps]/\st.tm 3=aI (sumI (sc.atoms.take k))/\st.tm 4=aI k/\st.mu=[]) ?_ ?_
 .simp [go_sem,sumI]
 rintro k st I ⟨o,p,r,C⟩;have J:=g.1;simp[go_sem,o,r,C];refine BrS.intro (fun i=>?_) (fun j=>?_)
 .have i:k<sc.atoms.length:=by simpa using i
  have t:=uG sc.atoms k i;have l:=g.sum (k+1);rw[t]at l;simp[go_sem,o,p,r,i];exact⟨by rw[t,qg (by omega) (by omega)],qg (by omega) (by omega)⟩
 .have j:k=sc.atoms.length:=by simp at j;omega
  subst j;simp[go_sem,p];exact .hf _ (HF.sc _)
def ud:List Int->Int->Int->Int
 | [],_,_ => -1
 |a :: l,x,i=>if x<a then i else ud l (x-a) (i+1)
def vt(sc:Sc)(x:Int):Int:=ud sc.atoms x 0
theorem kT(l:List Int)(k:Nat)(x i:Int)(h:k<l.length):ud (l.drop k) x i=if x<l[k] then i else ud (l.drop (k+1)) (x-l[k]) (i+1):=by
 rw[zG h,ud]
def divN(n x:Int):Nat->Int
 | 0=>x
 |j+1=>divN n x j / n
theorem J6{C:Type}{l:List C}{p:C->Bool}:l.all p=true↔∀(i:Nat) (h:i<l.length),p l[i]=true:=by
 rw[qH];refine⟨fun h i g=>h _ (qy g),fun h a j=>?_⟩;obtain⟨i,g,rfl⟩:=Zu j;exact h i g
theorem J7{C:Type}{l:List C}{p:C->Bool}{i:Nat}(h:i<l.length)(g:p l[i]=false):l.all p=false:=by
 rw[<-Bool.not_eq_true,J6];intro j;have:=j i h;simp[g]at this
end E9
namespace Y13
open Y1 Y2 P1 Y6
def Yg(c:Ck)(s:Scp)(n:Nd):Res:=
 if (c.ts.preds.any fun p=>decide (p.name=n.name))=true then
  match zf c n.name with
  |none => .error (45,n.pos)
  |some p=>match c.ts.preds[p]? with
   |none => .error (45,n.pos)
   |some g=>if g.params.length=n.kids.length then ya c s n.pos g.params n.kids else .error (45,n.pos)
 else .error (40,n.pos)
def endC:Res->AEnd
 | .ok _ => .ret (.tup [])
 | .error e => .pan (JT e.1 e.2)
@[go_sem] theorem endC_ok(k:Option Kd):endC (.ok k) = .ret (.tup []):=rfl
@[go_sem] theorem qnO(e:Dg):endC (.error e) = .pan (JT e.1 e.2):=rfl
theorem qeW{lo sz:Nat}{mu:Mu}{av:AV}{xs:List (List AV)}(h:OwnF lo mu sz av xs)(w:z6 sz xs)(hf:∀ r,r∈xs->∀ c,c∈r->HF c):Rd (cutM (fun i=>decide (lo<=i)) mu 0) av (.lst false xs):=by
 obtain⟨g,j,o⟩:=h;refine Own.rd (sz:=sz) ?_ w hf;rcases g with rfl|⟨b,rfl,l⟩
 .exact .inl rfl
 .refine .inr ⟨b,rfl,?_⟩
  rw[jK,l];simp[j b _ _ _ rfl]
end Y13
namespace Y14
open P1 P2
structure We (ns:Nat) (env:List (ByteArray×Int)):Prop where
 len:env.length<=1000000
 r:∀ p,p∈env->0<=p.2/\p.2<ns
theorem kU{ns:Nat}{env:List (ByteArray×Int)}(h:We ns env):ScOk ns (yP env):=by
 have:∀(l:List (ByteArray×Int)) (s:Scp),(∀ p,p∈l->0<=p.2/\p.2<(ns:Int))->ScOk ns s->ScOk ns (l.foldl (fun s p=>(p.1,kOf [p.2]) :: s) s):=by
  intro l;induction l with
  |nil=>intro s _ i;exact i
  |cons a l t =>
   intro s j i;refine t _ (fun p C=>j p (qO _ C)) fun v g=>?_
   rcases qw.1 g with rfl|g
   .exact ⟨J2 (by simp) (by simp) (fun x o=>by rw[qN]at o;subst o;exact j a (qU ..)),rfl⟩
   .exact i v g
 exact this env [] h.r fun v g=>absurd g qI
end Y14
namespace Y15
section
variable {C:Type}
def repL(g:C->C->Bool)(l:List C):List Bool:=(qt l.length).map fun i=>match l[i]? with|some x=>(l.take i).any fun y=>g x y|none=>false
theorem uP(g:C->C->Bool)(l:List C):(repL g l).length=l.length:=by simp[repL]
theorem kV(g:C->C->Bool)(l:List C){i:Nat}(h:i<l.length):(repL g l)[i]?=some ((l.take i).any fun y=>g l[i] y):=by
 simp[repL,h]
end
end Y15
namespace Y16
open P1 Y1 Y9 Y15
abbrev cDg(d:Dg):List AV:=[aI d.1,aI d.2]
def dups(l:List Bool):List Dg:=(l.filter id).map fun _=>(41,0)
def repB{C:Type}(g:C->C->Bool)(l:List C)(i:Nat):List Bool:=((repL g l).take (i+1)).drop i
def rp(d:Dg):List Dg:=if d.1=0 then [] else [d]
def jR(ts:TS)(i:Nat):List Dg:=match ts.preds[i]? with
 |some p=>dups (repB (fun x y:Pd=>decide (x.name=y.name)) ts.preds i)++(dups (repL (fun x y:ByteArray×Int=>decide (x.1=y.1)) p.params)++rp (jP (mkCk ts i) p.params p.body))
 |none=>[]
def uQ(ts:TS)(g:List (ByteArray×Nd))(i:Nat):List Dg:=match g[i]? with
 |some f=>dups (repB (fun x y:ByteArray×Nd=>decide (x.1=y.1)) g i)++rp (yg ts [] f.2)
 |none=>[]
def yZ(ts:TS):List Dg:=
 dups (repL (fun x y:ByteArray×Bool=>decide (x.1=y.1)) ts.sorts)++(dups (repL (fun x y:Fld=>decide (x.name=y.name)&&decide (x.sorts=y.sorts)) ts.fields) ++
  ((qt ts.preds.length).flatMap (jR ts)++(qt ts.facts.length).flatMap (uQ ts ts.facts)))
abbrev lDg(l:List Dg):AV := .lst false (l.map cDg)
theorem ue(l:List Bool):(dups l).length<=l.length:=by
 unfold dups;rw[zH];exact List.length_filter_le _ _
theorem kW(d:Dg):(rp d).length<=1:=by unfold rp;split<;>simp
theorem Wf(f:Nat->List Dg)(hf:∀ i,(f i).length<=10):∀ k,((qt k).flatMap f).length<=10*k
 | 0=>by simp
 |k+1=>by
  rw[List.range_succ,List.flatMap_append,qX];have:=Wf f hf k;have:=hf k;simp only[wB,List.flatMap_nil,List.append_nil];omega
theorem kX{C:Type}(g:C->C->Bool)(l:List C)(i:Nat):(repB g l i).length<=1:=by
 unfold repB;rw[List.length_drop,vK];omega
theorem kY{ts:TS}(h:okTS ts)(i:Nat):(jR ts i).length<=10:=by
 unfold jR;split
 .rename_i p g
  have l:=(h.pl p (q9 g)).1;have o:=ue (repB (fun x y:Pd=>decide (x.name=y.name)) ts.preds i);have r:=kX (fun x y:Pd=>decide (x.name=y.name)) ts.preds i;have j:=ue (repL (fun x y:ByteArray×Int=>decide (x.1=y.1)) p.params);rw[uP]at j;have t:=kW (jP (mkCk ts i) p.params p.body);simp only[qX];omega
 .simp
theorem qeX(ts:TS)(g:List (ByteArray×Nd))(i:Nat):(uQ ts g i).length<=10:=by
 unfold uQ;split
 .rename_i f hf
  have j:=ue (repB (fun x y:ByteArray×Nd=>decide (x.1=y.1)) g i);have l:=kX (fun x y:ByteArray×Nd=>decide (x.1=y.1)) g i;have o:=kW (yg ts [] f.2);simp only[qX];omega
 .simp
end Y16
namespace YU
open Go.RowKit
end YU
namespace YV
end YV
namespace YW
open P2 Y2 Y3
theorem okKd.le64{ns:Nat}{k:Kd}(h:okKd ns k)(C:ns<=4):k.ts.length<=64:=by
 have o:∀ t,t∈k.ts->t∈([0,1,2,3]:List Int).flatMap fun a=>([0,1,2,3]:List Int).flatMap fun b=>([0,1,2,3]:List Int).map fun c=>[a,b,c]:=fun t I=>by
  obtain⟨l,rfl,j,i⟩:=h.ts t I;have J:=h.ar.2;have g:∀ x:Int,0<=x->x<ns->x∈([0,1,2,3]:List Int):=fun x p r=>by simp;omega
  match l,j,i with
  | [],j,i=>simp[pad]
  | [a],j,i =>
   have:=g a (i a (by simp)).1 (i a (by simp)).2;simp only[Qf,qp];exact⟨a,this,0,by simp,0,by simp,by simp[pad]⟩
  | [a,b],j,i =>
   have p:=g a (i a (by simp)).1 (i a (by simp)).2;have r:=g b (i b (by simp)).1 (i b (by simp)).2;simp only[Qf,qp];exact⟨a,p,b,r,0,by simp,by simp[pad]⟩
  | [a,b,c],j,i =>
   have p:=g a (i a (by simp)).1 (i a (by simp)).2;have r:=g b (i b (by simp)).1 (i b (by simp)).2;have P:=g c (i c (by simp)).1 (i c (by simp)).2;simp only[Qf,qp];exact⟨a,p,b,r,c,P,by simp[pad]⟩
  |_ :: _ :: _ :: _ :: _,j,i=>simp at j;omega
 have:=List.Nodup.length_le_of_subset h.nd o;simpa using this
end YW
namespace YX
open P1 Y1
structure IV where
 arg:Option Nd
 size:Int
 name:ByteArray
abbrev IEnv:=List (ByteArray×IV)
structure ISt where
 last:Int
 cost:Int
def nd0:Nd := .mk 0 ⟨#[]⟩ 0 [] 0
abbrev eN0:AV := .agg [aI 0,aS ⟨#[]⟩,aI 0,.lst true [],aI 0]
def payS(n:Int)(s:ISt):ISt:=⟨s.last,s.cost+n⟩
def wq(env:IEnv)(n:Nd)(s:ISt):Except Dg ((Nd×Int)×ISt):=
 match getK n.name env with
 |none => .ok ((n,1),s)
 |some v=>match v.arg with
  |none => .ok ((.mk n.op v.name n.n n.kids n.pos,1),s)
  |some a=>if s.cost+v.size<=4000 then .ok ((a,v.size),payS v.size s) else .error (2,0)
end YX
namespace Q1
open P2 Y1 Y2 Y6
abbrev aU(x:Int):AV := .sc (.int .u8 x)
theorem kindU(op:Int):qe qc 65 [aI op] (aU (kd op)):=by
 refine qSV call65 func65 rfl ?_;simp[go_sem];unfold kd;by_cases g:1<=op<;>by_cases i:op<=15<;>by_cases j:20<=op<;>by_cases l:op<=23<;>by_cases o:30<=op<;>by_cases p:op<=51<;>first|omega | (simp[go_sem,g,i,j,l,o,p];exact .hf _ (HF.sc _))
def kwL:List ByteArray:=[⟨#[115,111,114,116]⟩,⟨#[111,114,100,101,114,101,100]⟩,⟨#[118,97,114]⟩,⟨#[102,105,101,108,100]⟩,⟨#[112,114,101,100]⟩,⟨#[102,97,99,116]⟩,⟨#[97,108,108]⟩,⟨#[115,111,109,101]⟩,⟨#[110,111]⟩,⟨#[111,110,101]⟩,⟨#[108,111,110,101]⟩,⟨#[97,108,119,97,121,115]⟩,⟨#[101,118,101,110,116,117,97,108,108,121]⟩,⟨#[97,102,116,101,114]⟩,⟨#[117,110,116,105,108]⟩,⟨#[110,111,110,101]⟩,⟨#[117,110,105,118]⟩,⟨#[105,100,101,110]⟩,⟨#[105,110]⟩,⟨#[110,111,116]⟩,⟨#[116,114,117,101]⟩,⟨#[102,97,108,115,101]⟩]
def kwB(s:ByteArray):Bool:=kwL.any fun x=>decide (x=s)
theorem qeY(s:ByteArray):qe qc 281 [aS s] (aB (kwB s)):=by
 refine qSV call281 func281 rfl ?_;simp[go_sem];have g:kwL.length=22:=rfl;refine qk.upK 22 (fun k st=>st.tm 0=aS s/\st.tm 3 = .lst true (kwL.map fun s=>[aS s])/\st.tm 4=aI k/\st.mu=[]/\∀ j x,j<k->kwL[j]?=some x->x≠s) ?_ ?_
 .refine ⟨by simp[go_sem],?_,by simp[go_sem],by simp[go_sem],fun j x r=>absurd r (by omega)⟩
  simp[go_sem,kwL]
 .rintro k st hk ⟨I,C,J,P,hI⟩
  unfold kwB;generalize hK:kwL=K at *
  by_cases R:k=22
  .subst R
   have T:(K.any fun x=>decide (x=s))=false:=by
    rw[List.any_eq_false];intro x p;obtain⟨j,r⟩:=List.mem_iff_getElem?.1 p;simpa using hI j x (by have:=(qj.1 r).1;omega) r
   rw[T];simp[go_sem,C,J,P,g];exact .hf _ (HF.sc _)
  .have t:k<K.length:=by omega
   have i:k<22:=by omega
   have l:(k:Int)<22:=by omega
   have w1:qi.wrap ((k:Int)+1)=(k:Int)+1:=qg (by omega) (by omega);by_cases p:K[k]=s
   .have U:(K.any fun x=>decide (x=s))=true:=List.any_eq_true.2 ⟨K[k],qy t,by simpa using p⟩
    rw[U];simp[go_sem,I,C,J,P,g,i,l,p];exact .hf _ (HF.sc _)
   .simp [go_sem,I,C,J,P,g,i,l,jO p,w1]
    try refine⟨i,Keep.mk' ?_⟩
    try refine Keep.mk' ?_
    refine⟨by simp[go_sem,I],by simp[go_sem,C],by simp[go_sem],by simp[go_sem],fun j x r o=>?_⟩;by_cases a0:j=k
    .subst a0
     rw[qz t]at o;cases o;exact p
    .exact hI j x (by omega) o
def bys(l:List Int):ByteArray:=⟨(l.map fun x=>UInt8.ofNat x.toNat).toArray⟩
theorem qeZ(l:List Int)(x:Int):bys (l++[x])=bys l++⟨#[UInt8.ofNat x.toNat]⟩:=by
 apply ByteArray.ext;simp[bys]
theorem kZ(l:List Int):(bys l).size=l.length:=by simp[bys,ByteArray.size]
def shpV(op:Int)(nk:Nat):AV:=match shp op nk with
 |some l => .tup [aS (bys l),aB true]
 |none => .tup [aS ⟨#[]⟩,aB false]
theorem J8(mu:Mu)(a:ByteArray)(b:Bool):Rd mu (.tup [aS a,aB b]) (.tup [aS a,aB b]) := .hf _ (HF.tup fun c g=>by simp at g;rcases g with rfl|rfl<;>exact HF.sc _)
theorem qe0(nk:Nat)(J:nk<=100000):qe qc 240 [aI 47,aI nk] (shpV 47 nk):=by
 refine qSV call240 func240 rfl ?_;simp[go_sem];refine qk.upK (min nk 401) (fun k st=>st.tm 1=aI nk/\st.tm 6=aS (bys (zt k 101))/\st.tm 7=aI k) ?_ ?_
 .exact ⟨by simp[go_sem],by simp[go_sem,bys],by simp[go_sem]⟩
 .rintro k st hk ⟨i,j,l⟩
  by_cases o:k=min nk 401
  .have P:shpV 47 nk = .tup [aS (bys (zt k 101)),aB true]:=by
    rw[o];rfl
   rw[P];by_cases h1:nk<=k
   .have p:¬k<nk:=by omega
    simp[go_sem,i,j,l,p];exact J8 _ _ _
   .have R:k=401:=by omega
    subst R;have h3:401<nk:=by omega
    have T:(401:Int)<nk:=by omega
    simp[go_sem,i,j,l,T];exact J8 _ _ _
  .have r:k<nk:=by omega
   have I:k<401:=by omega
   have g:(k:Int)<401:=by omega
   have U:qi.wrap ((k:Int)+1)=(k:Int)+1:=qg (by omega) (by omega);have t:(bys (zt k 101)).size+1<=9223372036854775807:=by rw[kZ,List.length_replicate];omega
   have C:bys (zt k 101)++⟨#[101]⟩=bys (zt (k+1) 101):=by
    rw[List.replicate_succ',qeZ];rfl
   generalize bys (zt k 101)=B at *
   simp[go_sem,i,j,l,r,g,t,U];refine⟨by omega,Keep.mk' ?_⟩;exact⟨by simp[go_sem,i],by simp[go_sem,C],by simp[go_sem]⟩
theorem qe1(op:Int)(nk:Nat)(g:nk<=100000):qe qc 240 [aI op,aI nk] (shpV op nk):=by
 by_cases h47:op=47
 .subst h47;exact qe0 nk g
 by_cases o:1<=op/\op<=51
 .have j:op=1\/op=2\/op=3\/op=4\/op=5\/op=6\/op=7\/op=8\/op=9\/op=10\/op=11\/op=12\/op=13\/op=14\/op=15\/op=16\/op=17\/op=18\/op=19\/op=20\/op=21\/op=22\/op=23\/op=24\/op=25\/op=26\/op=27\/op=28\/op=29\/op=30\/op=31\/op=32\/op=33\/op=34\/op=35\/op=36\/op=37\/op=38\/op=39\/op=40\/op=41\/op=42\/op=43\/op=44\/op=45\/op=46\/op=48\/op=49\/op=50\/op=51:=by omega
  rcases j with rfl|rfl|rfl|rfl|rfl|rfl|rfl|rfl|rfl|rfl|rfl|rfl|rfl|rfl|rfl|rfl|rfl|rfl|rfl|rfl|rfl|rfl|rfl|rfl|rfl|rfl|rfl|rfl|rfl|rfl|rfl|rfl|rfl|rfl|rfl|rfl|rfl|rfl|rfl|rfl|rfl|rfl|rfl|rfl|rfl|rfl|rfl|rfl|rfl|rfl
  all_goals
   refine qSV call240 func240 rfl ?_;simp[go_sem,shpV,shp];exact J8 _ _ _
 .have i:∀ c:Int,1<=c->c<=51->(op=c)=False:=fun c p r=>eq_false (by omega)
  have l:shp op nk=none:=by
   unfold shp
   repeat rw[if_neg (by omega)]
  rw[shpV,l];refine qSV call240 func240 rfl ?_;simp[go_sem,i];exact J8 _ _ _
end Q1
namespace Q2
open P2 Y1 Q1
def fitB(op:Int)(ks:List Nd):Bool:=decide (shp op ks.length=some (ks.map fun k=>kd k.op))
theorem qe2(l:List Int)(g:∀ x,x∈l->0<=x/\x<256)(i:Nat)(h:i<l.length)(j:i<(bys l).data.size):(((bys l).data[i]).toNat:Int)=l[i]:=by
 have o:=g l[i] (qy h);simp only[bys,List.getElem_toArray,List.getElem_map,UInt8.toNat_ofNat'];omega
theorem qe3{op:Int}{nk:Nat}{l:List Int}(h:shp op nk=some l):∀ x,x∈l->0<=x/\x<256:=by
 unfold shp at h
 repeat' split at h
 all_goals first
  | (cases h;done)
  | (cases h;intro x g;cases g;done)
  | (cases h;intro x g;rw[List.mem_replicate]at g;omega)
  | (cases h;intro x g;simp at g;omega)
theorem fitsU(op:Int)(ks:List Nd)(hk:ks.length<=1000):qe qc 169 [aI op,lNd ks] (aB (fitB op ks)):=by
 have C:=qe1 op ks.length (by omega);unfold shpV at C;cases o:shp op ks.length with
 |none =>
  simp only[o]at C;have hf:fitB op ks=false:=by simp[fitB,o]
  rw[hf];refine qSV call169 func169 rfl ?_;simp[go_sem];refine qd.pure C (.cons (.hf (HF.sc _)) (.cons (.hf (HF.sc _)) .nil)) ?_;simp[go_sem];exact .hf _ (HF.sc _)
 |some l =>
  simp only[o]at C;have i:=kZ l;have I:=qe2 l (qe3 o);generalize bys l=B at *
  refine qSV call169 func169 rfl ?_;simp[go_sem];refine qd.pure C (.cons (.hf (HF.sc _)) (.cons (.hf (HF.sc _)) .nil)) ?_;by_cases t:l.length=ks.length
  .simp [go_sem,i,t]
   refine qk.upK ks.length (fun k st=>st.tm 1=lNd ks/\st.tm 5=aS B/\st.tm 7=aI k/\∀ j,j<k->(ks[j]?).map (fun k=>kd k.op)=l[j]?) ?_ ?_
   .exact ⟨by simp[go_sem],by simp[go_sem],by simp[go_sem],fun j P=>absurd P (by omega)⟩
   .rintro k st hk ⟨R,U,J,hI⟩
    by_cases a0:k=ks.length
    .subst a0
     have hf:fitB op ks=true:=by
      rw[fitB,o,decide_eq_true];congr 1;apply jy;intro j;by_cases P:j<ks.length
      .rw [zp,hI j P]
      .rw [yF (by omega),yF (by simp;omega)]
     rw[hf];simp[go_sem,R,J];exact .hf _ (HF.sc _)
    .have g:k<ks.length:=by omega
     have w1:qi.wrap ((k:Int)+1)=(k:Int)+1:=qg (by omega) (by omega);simp[go_sem,R,J,g];refine qm.intro (by kernel_rfl) ?_;simp[go_sem,R,J,g];refine qd.pure (kindU ks[k].op) (.cons (.hf (HF.sc _)) .nil) ?_;have p:k<l.length:=by omega
     have a1:k<B.data.size:=by have:B.data.size=l.length:=i;omega
     have hg:=I k p a1;by_cases T:kd ks[k].op=l[k]
     .have r:kd ks[k].op=((B.data[k]).toNat:Int):=by rw[hg];exact T
      simp[go_sem,U,J,g,i,t,r,w1];refine Keep.mk' ?_;refine⟨by simp[go_sem,R],by simp[go_sem,U],by simp[go_sem],fun j P=>?_⟩;by_cases a2:j=k
      .subst a2
       rw[qz g,qz p,qW,T]
      .exact hI j (by omega)
     .have r:¬kd ks[k].op=((B.data[k]).toNat:Int):=by rw[hg];exact T
      have hf:fitB op ks=false:=by
       rw[fitB,o,decide_eq_false];intro e;injection e with e;apply T;have:l[k]?=some (kd ks[k].op):=by rw[e,zp,qz g,qW]
       rw[qz p]at this;simpa using this.symm
      rw[hf];simp[go_sem,U,J,g,i,t,r];exact .hf _ (HF.sc _)
  .have hf:fitB op ks=false:=by
    rw[fitB,o,decide_eq_false];intro e;injection e with e;rw[e]at t;simp at t
   rw[hf];simp[go_sem,i,t];exact .hf _ (HF.sc _)
end Q2
namespace Q3
open Y1 Q1
def letC(c:Int):Bool:=(decide (97<=c)&&decide (c<=122))||(decide (65<=c)&&decide (c<=90))
def chB(i:Nat)(c:Int):Bool:=letC c||(!decide (i=0)&&(decide (c=95)||(decide (48<=c)&&decide (c<=57))))
def yo(s:ByteArray):Bool:=decide (1<=s.size)&&decide (s.size<=16)&&!kwB s&&(qt s.size).all fun i=>match s.data[i]? with|some c=>chB i c.toNat|none=>true
theorem qe4(s:ByteArray):qe qc 239 [aS s] (aB (yo s)):=by
 refine qSV call239 func239 rfl ?_;by_cases h0:s.size=0
 .have r:yo s=false:=by simp[yo,h0]
  rw[r];simp[go_sem,h0];exact .hf _ (HF.sc _)
 by_cases aa:16<s.size
 .have r:yo s=false:=by
   have:¬s.size<=16:=by omega
   simp[yo,this]
  rw[r];have l:(16:Int)<s.size:=by omega
  simp[go_sem,h0,l];exact .hf _ (HF.sc _)
 have l:¬(16:Int)<s.size:=by omega
 simp[go_sem,h0,l];refine qd.pure (qeY s) (.cons (.hf (HF.sc _)) .nil) ?_;cases hk:kwB s with
 |true =>
  have r:yo s=false:=by simp[yo,hk]
  rw[r];simp[go_sem];exact .hf _ (HF.sc _)
 |false =>
  simp[go_sem];refine qk.upK s.size (fun k st=>st.tm 0=aS s/\st.tm 3=aI k/\∀ j c,j<k->s.data[j]?=some c->chB j c.toNat=true) ?_ ?_
  .exact ⟨by simp[go_sem],by simp[go_sem],fun j c hj=>absurd hj (by omega)⟩
  .rintro k st ab ⟨e0,e2,hI⟩
   by_cases a0:k=s.size
   .have r:yo s=true:=by
     simp only[yo,hk,Bool.not_false,Bool.and_true,qr,decide_eq_true_eq,qH,yk];refine⟨⟨by omega,by omega⟩,fun i hi=>?_⟩;cases hc:s.data[i]? with
     |none=>rfl
     |some c=>exact hI i c (by omega) hc
    rw[r];simp[go_sem,e0,e2,a0];exact .hf _ (HF.sc _)
   .have o:k<s.size:=by omega
    have T:k<s.data.size:=o;have w1:qi.wrap ((k:Int)+1)=(k:Int)+1:=qg (by omega) (by omega);have z1:qi.wrap 1=1:=rfl;have U:s.data[k]?=some s.data[k]:=Array.getElem?_eq_getElem T;simp[go_sem,e0,e2,o];generalize hc:((s.data[k]).toNat:Int)=c at *
    cases g:chB k c with
    |false =>
     have r:yo s=false:=by
      rw[yo,Bool.and_eq_false_iff];refine .inr (List.all_eq_false.2 ⟨k,yk.2 o,?_⟩);simp only[U,hc,g];simp
     rw[r];by_cases C:97<=c<;>by_cases I:c<=122<;>by_cases J:65<=c<;>by_cases P:c<=90<;>by_cases R:c=95<;>by_cases a6:c<48<;>by_cases a7:57<c<;>by_cases t:k=0<;>first|omega | (exfalso;simp[chB,letC,C,I,J,P,R,a6,a7,t]at g;done) | (exfalso;simp[chB,letC,C,I,J,P,R,a6,a7,t]at g;omega)|skip
     all_goals
      simp[go_sem,e2,C,I,J,P,R,a6,a7,t];exact .hf _ (HF.sc _)
    |true =>
     have p:∀ j d,j<k+1->s.data[j]?=some d->chB j d.toNat=true:=fun j d hj hd=>by
      by_cases a9:j=k
      .subst a9
       rw[U]at hd;cases hd;rw[hc];exact g
      .exact hI j d (by omega) hd
     by_cases C:97<=c<;>by_cases I:c<=122<;>by_cases J:65<=c<;>by_cases P:c<=90<;>by_cases R:c=95<;>by_cases a6:c<48<;>by_cases a7:57<c<;>by_cases t:k=0<;>first|omega | (exfalso;simp[chB,letC,C,I,J,P,R,t]at g;done) | (exfalso;simp[chB,letC,C,I,J,P,R,t]at g;omega)|skip
     all_goals
      simp[go_sem,e2,C,I,J,P,R,a6,a7,t,w1,z1]
      first
       |exact⟨o,Keep.mk' ⟨by simp[go_sem,e0],by simp[go_sem],p⟩⟩
       | (subst t;exact⟨o,Keep.mk' ⟨by simp[go_sem,e0],by simp[go_sem],fun j d hj hd=>p j d (by omega) hd⟩⟩)
end Q3
namespace Q4
open P2 Y1 Y2 Y9 Q2 Q3
def uf(op:Int):Bool:=decide (op=1)||decide (op=15)||decide (op=45)||decide (op=46)||decide (op=47)
def numB(op n:Int):Bool:=if op=2 then decide (1<=n)&&decide (n<=3) else if op=20 then decide (-64<=n)&&decide (n<=64) else decide (n=0)
def ownB(n:Nd):Bool:=if uf n.op=yo n.name/\(uf n.op=true\/n.name=⟨#[]⟩) then numB n.op n.n else false
theorem ownU(n:Nd):qe qc 168 [eNd n] (aB (ownB n)):=by
 refine qSV call168 func168 rfl ?_;have o:=qe4 n.name;generalize p:yo n.name=N at *
 by_cases r:n.op=1\/n.op=15\/n.op=45\/n.op=46\/n.op=47
 .have g:uf n.op=true:=by rcases r with h|h|h|h|h<;>simp[uf,h]
  have t:¬n.op=2:=by omega
  have i:¬n.op=20:=by omega
  rcases r with h|h|h|h|h
  all_goals
   simp[go_sem,h];refine qd.pure o (.cons (.hf (HF.sc _)) .nil) ?_;cases N with
   |true =>
    have j:ownB n=decide (n.n=0):=by simp[ownB,g,p,numB,t,i]
    rw[j];simp[go_sem,h];exact .hf _ (HF.sc _)
   |false =>
    have j:ownB n=false:=by simp[ownB,g,p]
    rw[j];simp[go_sem];exact .hf _ (HF.sc _)
 .simp only[not_or]at r
  obtain⟨d1,d2,d3,d4,d5⟩:=r;have g:uf n.op=false:=by simp[uf,d1,d2,d3,d4,d5]
  simp[go_sem,d1,d2,d3,d4,d5];refine qd.pure o (.cons (.hf (HF.sc _)) .nil) ?_;cases N with
  |true =>
   have j:ownB n=false:=by simp[ownB,g,p]
   rw[j];simp[go_sem];exact .hf _ (HF.sc _)
  |false =>
   by_cases l:n.name=⟨#[]⟩
   .have j:ownB n=numB n.op n.n:=by
     unfold ownB;rw[if_pos ⟨by rw[g,p],.inr l⟩]
    rw[j];unfold numB;by_cases t:n.op=2
    .by_cases C:1<=n.n<;>by_cases I:n.n<=3<;>(simp[go_sem,t,l,C,I];exact .hf _ (HF.sc _))
    .by_cases i:n.op=20
     .by_cases C : -64<=n.n<;>by_cases I:n.n<=64<;>(simp[go_sem,i,l,C,I];exact .hf _ (HF.sc _))
     .simp [go_sem,t,i,l]
      exact .hf _ (HF.sc _)
   .have j:ownB n=false:=by simp[ownB,g,l]
    rw[j];have J:n.name.toList.isEmpty=false:=by simpa using jO l
    simp[go_sem,J];exact .hf _ (HF.sc _)
mutual
def cntN:Nd->Int->Int
 | .mk _ _ _ ks _,left=>yh ks left 1
def yh:List Nd->Int->Int->Int
 | [],_,sum=>sum
 |k :: ks,left,sum=>if sum<=left then yh ks left (sum+cntN k (left-sum)) else sum
end
theorem k5(n:Nd)(left:Int):cntN n left=yh n.kids left 1:=by
 obtain⟨op,t,i,ks,p⟩:=n;simp[cntN,Nd.kids]
mutual
theorem Wg:∀(n:Nd) (left:Int),1<=cntN n left/\(cntN n left<=left+1\/cntN n left=1)
 | .mk _ _ _ ks _,left=>by
  simp only[cntN];have:=Wh ks left 1;omega
theorem Wh:∀(ks:List Nd) (left sum:Int),sum<=yh ks left sum/\(yh ks left sum<=left+1\/yh ks left sum=sum)
 | [],left,sum=>by simp[yh]
 |k :: ks,left,sum=>by
  simp only[yh];split
  .have g:=Wg k (left-sum)
   have i:=Wh ks left (sum+cntN k (left-sum));omega
  .omega
end
theorem k6:∀(m:Nat) (n:Nd),szN n<=m->∀ left:Int,-1000000<=left/\left<=1000000->qe qc 87 [eNd n,aI left] (aI (cntN n left))
 | 0,n,J,_,_=>by obtain⟨op,nm,i,ks,p⟩:=n;simp[szN]at J
 |m+1,n,J,left,hl=>by
  have T:∀ k,k∈n.kids->∀ left:Int,-1000000<=left/\left<=1000000->qe qc 87 [eNd k,aI left] (aI (cntN k left)):=fun k P =>
   k6 m k (by have:=yx P;omega)
  rw[k5];generalize U:yh n.kids left 1=R;refine qSV call87 func87 rfl ?_;simp[go_sem];refine qk.upK n.kids.length (fun k st=>∃ sum:Int,st.tm 1=aI left/\st.tm 2 = .ip (cNd n)/\st.tm 5=aI sum/\st.tm 6=aI k/\(k:Int)+1<=sum/\(sum<=left+1\/sum=1)/\yh (n.kids.drop k) left sum=R) ?_ ?_
  .exact ⟨1,by simp[go_sem],by simp[go_sem],by simp[go_sem],by simp[go_sem],by omega,by omega,by simpa using U⟩
  .rintro k st P ⟨sum,t,l,C,o,a0,a1,j⟩
   by_cases I:k=n.kids.length
   .subst I
    rw[yH]at j;simp only[yh]at j;subst j;simp[go_sem,l,C,o];exact .hf _ (HF.sc _)
   .have g:k<n.kids.length:=by omega
    rw[zG g]at j;simp only[yh]at j;by_cases r:sum<=left
    .rw [if_pos r]at j
     have w1:qi.wrap ((k:Int)+1)=(k:Int)+1:=qg (by omega) (by omega);have w2:qi.wrap (left-sum)=left-sum:=qg (by omega) (by omega);have a2:=Wg n.kids[k] (left-sum);have w3:qi.wrap (sum+cntN n.kids[k] (left-sum))=sum+cntN n.kids[k] (left-sum):=qg (by omega) (by omega);simp[go_sem,t,l,C,o,g,r,w2];refine qd.pure (T n.kids[k] (qy g) (left-sum) ⟨by omega,by omega⟩) (.cons (.hf (ze _)) (.cons (.hf (HF.sc _)) .nil)) ?_;simp[go_sem,o,w1,w3];refine⟨g,Keep.mk' ?_⟩;exact⟨sum+cntN n.kids[k] (left-sum),by simp[go_sem,t],by simp[go_sem,l],by simp[go_sem],by simp[go_sem],by omega,by omega,j⟩
    .rw [if_neg r]at j
     subst j;simp[go_sem,t,l,C,o,g,r];exact .hf _ (HF.sc _)
mutual
def forN:Nd->Int->Bool
 | .mk op t i ks p,g=>if g<1 then false else ownB (.mk op t i ks p)&&(fitB op ks&&vu ks (g-1))
def vu:List Nd->Int->Bool
 | [],_=>true
 |k :: ks,g=>forN k g&&vu ks g
end
theorem J9(n:Nd)(g:Int):forN n g=if g<1 then false else ownB n&&(fitB n.op n.kids&&vu n.kids (g-1)):=by
 obtain⟨op,t,i,ks,p⟩:=n;simp[forN,Nd.kids,Nd.op]
theorem k7:∀(m:Nat) (n:Nd),szN n<=m->Small n->∀ g:Int,-1000000<=g/\g<=1000000->qe qc 88 [eNd n,aI g] (aB (forN n g))
 | 0,n,U,_,_,_=>by obtain⟨op,nm,i,ks,p⟩:=n;simp[szN]at U
 |m+1,n,U,hs,g,hl=>by
  have ih:∀ k,k∈n.kids->∀ g:Int,-1000000<=g/\g<=1000000->qe qc 88 [eNd k,aI g] (aB (forN k g)):=fun k I =>
   k7 m k (by have:=yx I;omega) (hs.kid I)
  have C:=hs.len;rw[J9];have l:=ownU n;have o:=fitsU n.op n.kids C;by_cases j:g<1
  .rw [if_pos j]
   refine qSV call88 func88 rfl ?_;simp[go_sem,j];exact .hf _ (HF.sc _)
  rw[if_neg j];cases ho:ownB n with
  |false =>
   rw[ho]at l;refine qSV call88 func88 rfl ?_;simp[go_sem,j];refine qd.pure l (.cons (.hf (ze _)) .nil) ?_;simp[go_sem];exact .hf _ (HF.sc _)
  |true =>
   rw[ho]at l;cases hf:fitB n.op n.kids with
   |false =>
    rw[hf]at o;refine qSV call88 func88 rfl ?_;simp[go_sem,j];refine qd.pure l (.cons (.hf (ze _)) .nil) ?_;simp[go_sem];refine qd.pure o (.cons (.hf (HF.sc _)) (.cons (.hf (kq _)) .nil)) ?_;simp[go_sem];exact .hf _ (HF.sc _)
   |true =>
    rw[hf]at o;have wl:qi.wrap (g-1)=g-1:=qg (by omega) (by omega);generalize hR:vu n.kids (g-1)=R;simp only[Bool.true_and];refine qSV call88 func88 rfl ?_;simp[go_sem,j];refine qd.pure l (.cons (.hf (ze _)) .nil) ?_;simp[go_sem];refine qd.pure o (.cons (.hf (HF.sc _)) (.cons (.hf (kq _)) .nil)) ?_;simp[go_sem];refine qk.upK n.kids.length (fun k st=>st.tm 1=aI g/\st.tm 2 = .ip (cNd n)/\st.tm 5=aI k/\vu (n.kids.drop k) (g-1)=R) ?_ ?_
    .exact ⟨by simp[go_sem],by simp[go_sem],by simp[go_sem],by simpa using hR⟩
    .rintro k st I ⟨e1,J,P,r⟩
     by_cases T:k=n.kids.length
     .subst T
      rw[yH]at r;simp only[vu]at r;subst r;simp[go_sem,J,P];exact .hf _ (HF.sc _)
     .have t:k<n.kids.length:=by omega
      have w1:qi.wrap ((k:Int)+1)=(k:Int)+1:=qg (by omega) (by omega);rw[zG t]at r;simp only[vu]at r;have hi:=ih n.kids[k] (qy t) (g-1) ⟨by omega,by omega⟩;simp[go_sem,e1,J,P,t,wl];refine qd.pure hi (.cons (.hf (ze _)) (.cons (.hf (HF.sc _)) .nil)) ?_;cases hq:forN n.kids[k] (g-1) with
      |true =>
       rw[hq,Bool.true_and]at r;simp[go_sem,P,w1];refine⟨t,Keep.mk' ?_⟩;exact⟨by simp[go_sem,e1],by simp[go_sem,J],by simp[go_sem],r⟩
      |false =>
       rw[hq,Bool.false_and]at r;subst r;simp[go_sem];exact .hf _ (HF.sc _)
theorem k8:∀(ks:List Nd) (left sum:Int),0<=sum->yh ks left sum<=left->sum+ks.length<=yh ks left sum/\∀ k,k∈ks->∃ l',l'<=left/\cntN k l'<=l'
 | [],left,sum,_,h=>by simp[yh]
 |k :: ks,left,sum,l,h=>by
  simp only[yh]at h⊢;split at h
  .rename_i j
   rw[if_pos j];have o:=Wg k (left-sum);have i:=k8 ks left (sum+cntN k (left-sum)) (by omega) h;have p:=i.1;refine⟨by simp only[zu];omega,fun q g=>?_⟩;rcases qw.1 g with rfl|g
   .exact ⟨left-sum,by omega,by omega⟩
   .exact i.2 q g
  .omega
theorem k9:∀(m:Nat) (n:Nd) (left:Int),szN n<=m->left<=1000->cntN n left<=left->Small n
 | 0,n,_,g,_,_=>by obtain⟨op,nm,i,ks,p⟩:=n;simp[szN]at g
 |m+1,n,left,g,C,h=>by
  rw[k5]at h;obtain⟨I,l⟩:=k8 n.kids left 1 (by omega) h;refine .mk n (by omega) fun k j=>?_
  obtain⟨o,r,t⟩:=l k j;exact k9 m k o (by have:=yx j;omega) (by omega) t
def zb(n:Nd):Bool:=decide (cntN n 400<=400)&&forN n 24
theorem Wi(n:Nd):qe qc 31 [eNd n] (aB (zb n)):=by
 have i:=k6 (szN n) n (qs _) 400 (by omega);by_cases h:cntN n 400<=400
 .have j:=k9 (szN n) n 400 (qs _) (by omega) h
  have hf:=k7 (szN n) n (qs _) j 24 (by omega);have g:zb n=forN n 24:=by simp[zb,h]
  rw[g];refine qSV call31 func31 rfl ?_;simp[go_sem];refine qd.pure i (.cons (.hf (ze _)) (.cons (.hf (HF.sc _)) .nil)) ?_;simp[go_sem,h];refine qd.pure hf (.cons (.hf (ze _)) (.cons (.hf (HF.sc _)) .nil)) ?_;simp[go_sem];exact .hf _ (HF.sc _)
 .have g:zb n=false:=by simp[zb,h]
  rw[g];refine qSV call31 func31 rfl ?_;simp[go_sem];refine qd.pure i (.cons (.hf (ze _)) (.cons (.hf (HF.sc _)) .nil)) ?_;simp[go_sem,h];exact .hf _ (HF.sc _)
theorem pa{ks:List Nd}{i:Int}(h:vu ks i=true):∀ k,k∈ks->forN k i=true:=by
 induction ks with
 |nil=>intro k g;simp at g
 |cons a l j =>
  simp only[vu,qr]at h;intro k g;rcases qw.1 g with rfl|g
  .exact h.1
  .exact j h.2 k g
theorem pb:∀(m:Nat) (n:Nd) (j:Int),szN n<=m->forN n j=true->WfN n
 | 0,n,_,l,_=>by obtain⟨op,nm,i,ks,p⟩:=n;simp[szN]at l
 |m+1,n,j,l,h=>by
  rw[J9]at h;split at h
  .exact absurd h (by simp)
  .simp only[qr]at h
   obtain⟨g,r,t⟩:=h;refine .mk n ?_ (fun C=>?_) fun k o=>pb m k (j-1) (by have:=yx o;omega) (pa t k o)
   .simpa [fitB] using r
   .unfold ownB at g
    split at g
    .rw [numB,if_pos C]at g
     simpa using g
    .exact absurd g (by simp)
theorem ug{n:Nd}(h:zb n=true):WfN n:=by
 simp only[zb,qr]at h;exact pb (szN n) n 24 (qs _) h.2
end Q4
namespace Q5
theorem qe5(a b:List Int)(ha:a.length<=1000000):qe qc 207 [lI a,lI b] (aB (decide (a=b))):=by
 refine qSV call207 func207 rfl ?_;by_cases j:a.length=b.length
 case neg =>
  rw[decide_eq_false (by rintro rfl;exact j rfl)];simp[go_sem,j];exact .hf _ (HF.sc _)
 simp[go_sem,j];refine qk.upK a.length (fun k st=>st.tm 0=lI a/\st.tm 1=lI b/\st.tm 5=aI k/\∀(i:Nat) (h:i<a.length) (o:i<b.length),i<k->a[i]=b[i]) ?_ ?_
 .exact ⟨by simp[go_sem],by simp[go_sem],by simp[go_sem],fun i h o P=>absurd P (by omega)⟩
 .rintro k st hk ⟨l,C,p,R⟩
  by_cases T:k=a.length
  .rw [decide_eq_true (List.ext_getElem j fun i h o=>R i h o (by omega))]
   have I:k=b.length:=by omega
   simp[go_sem,l,p,I,j];exact .hf _ (HF.sc _)
  .have U:k<a.length:=by omega
   have r:k<b.length:=by omega
   have w1:qi.wrap ((k:Int)+1)=(k:Int)+1:=qg (by omega) (by omega);have g:(k:Int)<(b.length:Int):=by omega
   by_cases t:a[k]=b[k]
   .simp [go_sem,l,p,j,g]
    try refine qm.intro (by kernel_rfl) ?_
    simp[go_sem,l,C,p,r,j,g,t,w1]
    try refine⟨by omega,Keep.mk' ?_⟩
    try refine Keep.mk' ?_
    refine⟨by simp[go_sem,l],by simp[go_sem,C],by simp[go_sem],fun i h o P=>?_⟩;by_cases J:i=k
    .subst J;exact t
    .exact R i h o (by omega)
   .rw [decide_eq_false (fun e=>t (by simp[e]))]
    simp[go_sem,l,p,j,g]
    try refine qm.intro (by kernel_rfl) ?_
    simp[go_sem,l,C,p,r,j,g,t];exact .hf _ (HF.sc _)
end Q5
namespace Q6
open Y1 Y9
mutual
def anyN(p:Nd->Bool):Nd->Bool
 | .mk op t i ks q=>p (.mk op t i ks q)||j8 p ks
def j8(p:Nd->Bool):List Nd->Bool
 | []=>false
 |k :: ks=>anyN p k||j8 p ks
end
theorem Va(p:Nd->Bool)(n:Nd):anyN p n=(p n||j8 p n.kids):=by
 obtain⟨op,t,i,ks,q⟩:=n;simp[anyN,Nd.kids]
theorem pf:∀(m:Nat) (n:Nd),szN n<=m->Small n->qe qc 22 [eNd n] (aB (anyN (fun n=>decide (n.op=47)) n))
 | 0,n,I,_=>by obtain⟨op,nm,i,ks,p⟩:=n;simp[szN]at I
 |m+1,n,I,J=>by
  have U:∀ k,k∈n.kids->qe qc 22 [eNd k] (aB (anyN (fun n=>decide (n.op=47)) k)):=fun k r =>
   pf m k (by have:=yx r;omega) (J.kid r)
  have P:=J.len;rw[Va];generalize hR:j8 (fun n=>decide (n.op=47)) n.kids=R;refine qSV call22 func22 rfl ?_;by_cases t:n.op=47
  .simp [go_sem,t]
   exact .hf _ (HF.sc _)
  .rw [decide_eq_false t,Bool.false_or]
   simp[go_sem,t];refine qk.upK n.kids.length (fun k st=>st.tm 1 = .ip (cNd n)/\st.tm 3=aI k/\j8 (fun n=>decide (n.op=47)) (n.kids.drop k)=R) ?_ ?_
   .exact ⟨by simp[go_sem],by simp[go_sem],by simpa using hR⟩
   .rintro k st r ⟨l,o,j⟩
    by_cases C:k=n.kids.length
    .subst C
     rw[yH]at j;simp only[j8]at j;subst j;simp[go_sem,l,o];exact .hf _ (HF.sc _)
    .have g:k<n.kids.length:=by omega
     have w1:qi.wrap ((k:Int)+1)=(k:Int)+1:=qg (by omega) (by omega);rw[zG g]at j;simp only[j8]at j;have hi:=U n.kids[k] (qy g);simp[go_sem,l,o,g,qR]
     try refine qm.intro (by kernel_rfl) ?_
     try simp[go_sem,l,o,g,qR]
     refine qd.pure hi (.cons (.hf (ze _)) .nil) ?_;cases T:anyN (fun n=>decide (n.op=47)) n.kids[k] with
     |true =>
      rw[T,Bool.true_or]at j;subst j;simp[go_sem,l,o];exact .hf _ (HF.sc _)
     |false =>
      rw[T,Bool.false_or]at j;simp[go_sem,l,o,w1]
      try refine⟨g,Keep.mk' ?_⟩
      try refine Keep.mk' ?_
      exact⟨by simp[go_sem,l],by simp[go_sem],j⟩
end Q6
namespace Q7
open YF P1
def parB(ns:Nat)(l:List (ByteArray×Int)):Bool:=decide (l.length<=8)&&l.all fun p=>decide (0<=p.2)&&decide (p.2<ns)
theorem qe6(ts:TS)(l:List (ByteArray×Int)):qe qc 129 [eTS ts,lPm l] (aB (parB ts.sorts.length l)):=by
 refine qSV call129 func129 rfl ?_;by_cases U:l.length<=8
 case neg =>
  have i:parB ts.sorts.length l=false:=by simp[parB,U]
  have r:(8:Int)<l.length:=by omega
  rw[i];simp[go_sem,r];exact .hf _ (HF.sc _)
 have r:¬(8:Int)<l.length:=by omega
 simp[go_sem,r];refine qk.upK l.length (fun k st=>st.tm 1=lPm l/\st.tm 2 = .ip (cTS ts)/\st.tm 5=aI k/\∀ j p,j<k->l[j]?=some p->0<=p.2/\p.2<ts.sorts.length) ?_ ?_
 .exact ⟨by simp[go_sem],by simp[go_sem],by simp[go_sem],fun j p C=>absurd C (by omega)⟩
 .rintro k st hk ⟨o,J,t,hI⟩
  by_cases P:k=l.length
  .have i:parB ts.sorts.length l=true:=by
    simp only[parB,qr,decide_eq_true_eq,qH];refine⟨U,fun p i=>?_⟩;obtain⟨j,C⟩:=List.mem_iff_getElem?.1 i;exact hI j p (by have:=(qj.1 C).1;omega) C
   rw[i];simp[go_sem,o,t,P];exact .hf _ (HF.sc _)
  .have g:k<l.length:=by omega
   have w1:qi.wrap ((k:Int)+1)=(k:Int)+1:=qg (by omega) (by omega);have hg:l[k]?=some l[k]:=qz g;by_cases hq:0<=l[k].2/\l[k].2<ts.sorts.length
   .have I:¬l[k].2<0:=by omega
    have R:¬(ts.sorts.length:Int)<=l[k].2:=by omega
    simp[go_sem,o,t,g];refine qm.intro (by kernel_rfl) ?_;simp[go_sem,o,J,t,g,I,R,w1]
    try refine⟨g,Keep.mk' ?_⟩
    try refine Keep.mk' ?_
    refine⟨by simp[go_sem,o],by simp[go_sem,J],by simp[go_sem],fun j p C i=>?_⟩;by_cases T:j=k
    .subst T;rw[hg]at i;cases i;exact hq
    .exact hI j p (by omega) i
   .have i:parB ts.sorts.length l=false:=by
     rw[parB,Bool.and_eq_false_iff];refine .inr (List.all_eq_false.2 ⟨l[k],qy g,?_⟩);simp only[qr,decide_eq_true_eq];exact hq
    rw[i];by_cases I:l[k].2<0
    .simp [go_sem,o,t,g]
     refine qm.intro (by kernel_rfl) ?_;simp[go_sem,o,t,g,I];exact .hf _ (HF.sc _)
    .have R:(ts.sorts.length:Int)<=l[k].2:=by omega
     simp[go_sem,o,t,g];refine qm.intro (by kernel_rfl) ?_;simp[go_sem,o,J,t,g,I,R];exact .hf _ (HF.sc _)
theorem qe7{ns:Nat}{l:List (ByteArray×Int)}(h:parB ns l=true):l.length<=8/\∀ p,p∈l->0<=p.2/\p.2<ns:=by
 simp only[parB,qr,decide_eq_true_eq,qH]at h;exact⟨h.1,fun p g=>h.2 p g⟩
end Q7
namespace Q8
open YF P1 P2 Y1 Y9 Q4 Q7
def limB(ts:TS):Bool:=decide (ts.sorts.length<=4)&&decide (ts.fields.length<=6)&&decide (ts.preds.length<=8)&&decide (ts.facts.length<=16)
def fldB(ns:Nat)(f:Fld):Bool:=decide (1<=f.sorts.length)&&decide (f.sorts.length<=3)&&f.sorts.all fun x=>decide (0<=x)&&decide (x<ns)
def yb(ts:TS):Bool:=limB ts&&(ts.fields.all (fldB ts.sorts.length)&&(ts.preds.all (fun p=>parB ts.sorts.length p.params&&zb p.body)&&ts.facts.all fun f=>zb f.2))
theorem qe8(ts:TS):qe qc 58 [eTS ts] (aB (yb ts)):=by
 refine qSV call58 func58 rfl ?_;by_cases h1:ts.sorts.length<=4
 case neg =>
  have hf:yb ts=false:=by simp[yb,limB,h1]
  have P:(4:Int)<ts.sorts.length:=by omega
  rw[hf];simp[go_sem,P];exact .hf _ (HF.sc _)
 have P:¬(4:Int)<ts.sorts.length:=by omega
 by_cases h2:ts.fields.length<=6
 case neg =>
  have hf:yb ts=false:=by simp[yb,limB,h2]
  have T:(6:Int)<ts.fields.length:=by omega
  rw[hf];simp[go_sem,P,T];exact .hf _ (HF.sc _)
 have T:¬(6:Int)<ts.fields.length:=by omega
 by_cases h3:ts.preds.length<=8
 case neg =>
  have hf:yb ts=false:=by simp[yb,limB,h3]
  have a2:(8:Int)<ts.preds.length:=by omega
  rw[hf];simp[go_sem,P,T,a2];exact .hf _ (HF.sc _)
 have a2:¬(8:Int)<ts.preds.length:=by omega
 by_cases h4:ts.facts.length<=16
 case neg =>
  have hf:yb ts=false:=by simp[yb,limB,h4]
  have a5:(16:Int)<ts.facts.length:=by omega
  rw[hf];simp[go_sem,P,T,a2,a5];exact .hf _ (HF.sc _)
 have a5:¬(16:Int)<ts.facts.length:=by omega
 simp[go_sem,P,T,a2,a5];have a9:limB ts=true:=by simp[limB,h1,h2,h3,h4]
 generalize R:ts.sorts.length=o at *
 refine qk.upK ts.fields.length (fun k st=>st.tm 1 = .ip (cTS ts)/\st.tm 3=aI k/\∀ j f,j<k->ts.fields[j]?=some f->fldB o f=true) ?_ ?_
 .exact ⟨by simp[go_sem],by simp[go_sem],fun j p I=>absurd I (by omega)⟩
 .rintro k st hk ⟨r,e3,hI⟩
  by_cases J:k=ts.fields.length
  .have ab:ts.fields.all (fldB o)=true:=by
    rw[qH];intro f hf;obtain⟨j,I⟩:=List.mem_iff_getElem?.1 hf;exact hI j f (by have:=(qj.1 I).1;omega) I
   simp[go_sem,r,e3,J];refine qk.upK ts.preds.length (fun k st=>st.tm 1 = .ip (cTS ts)/\st.tm 6=aI k/\∀ j p,j<k->ts.preds[j]?=some p->(parB o p.params&&zb p.body)=true) ?_ ?_
   .exact ⟨by simp[go_sem,r],by simp[go_sem],fun j p I=>absurd I (by omega)⟩
   .clear r e3 hI J hk k st
    rintro k st hk ⟨r,e6,hI⟩;by_cases J:k=ts.preds.length
    .have ad:(ts.preds.all fun p=>parB o p.params&&zb p.body)=true:=by
      rw[qH];intro f hf;obtain⟨j,I⟩:=List.mem_iff_getElem?.1 hf;exact hI j f (by have:=(qj.1 I).1;omega) I
     simp[go_sem,r,e6,J];refine qk.upK ts.facts.length (fun k st=>st.tm 1 = .ip (cTS ts)/\st.tm 7=aI k/\∀ j f,j<k->ts.facts[j]?=some f->zb f.2=true) ?_ ?_
     .exact ⟨by simp[go_sem,r],by simp[go_sem],fun j p I=>absurd I (by omega)⟩
     .clear r e6 hI J hk k st
      rintro k st hk ⟨r,e7,hI⟩;by_cases J:k=ts.facts.length
      .have aa:(ts.facts.all fun f=>zb f.2)=true:=by
        rw[qH];intro f hf;obtain⟨j,I⟩:=List.mem_iff_getElem?.1 hf;exact hI j f (by have:=(qj.1 I).1;omega) I
       have ae:yb ts=true:=by
        unfold yb;rw[R,a9,ab,ad,aa];rfl
       rw[ae];simp[go_sem,r,e7,J];exact .hf _ (HF.sc _)
      .have g:k<ts.facts.length:=by omega
       have w1:qi.wrap ((k:Int)+1)=(k:Int)+1:=qg (by omega) (by omega);have hg:ts.facts[k]?=some ts.facts[k]:=qz g;have U:=Wi ts.facts[k].2;simp[go_sem,r,e7,g]
       try refine qm.intro (by kernel_rfl) ?_
       try simp[go_sem,r,e7,g]
       refine qd.pure U (.cons (.hf (ze _)) .nil) ?_;cases a0:zb ts.facts[k].2 with
       |false =>
        have hb:yb ts=false:=by
         have:(ts.facts.all fun f=>zb f.2)=false:=List.all_eq_false.2 ⟨_,qy g,by simp[a0]⟩;simp[yb,this]
        rw[hb];simp[go_sem];exact .hf _ (HF.sc _)
       |true =>
        simp[go_sem,e7,g,w1]
        try refine⟨g,Keep.mk' ?_⟩
        try refine Keep.mk' ?_
        refine⟨by simp[go_sem,r],by simp[go_sem],fun i f hi hf=>?_⟩;by_cases a1:i=k
        .subst a1;rw[hg]at hf;cases hf;exact a0
        .exact hI i f (by omega) hf
    .have g:k<ts.preds.length:=by omega
     have w1:qi.wrap ((k:Int)+1)=(k:Int)+1:=qg (by omega) (by omega);have hg:ts.preds[k]?=some ts.preds[k]:=qz g;have t:(parB o ts.preds[k].params&&zb ts.preds[k].body)=false->yb ts=false:=fun hb=>by
      have:(ts.preds.all fun p=>parB o p.params&&zb p.body)=false:=List.all_eq_false.2 ⟨_,qy g,by simp[hb]⟩;simp[yb,R,this]
     have a4:=qe6 ts ts.preds[k].params;rw[R]at a4;have U:=Wi ts.preds[k].body;have af:WKs [eTS ts,lPm ts.preds[k].params] [eTS ts,lPm ts.preds[k].params] := .cons (.hf (zq ts)) (.cons (.hf (Z8 _)) .nil);simp[go_sem,r,e6,g];refine qm.intro (by kernel_rfl) ?_;simp[go_sem,r,e6,g];refine qd.pure a4 af ?_;cases a6:parB o ts.preds[k].params with
     |false =>
      rw[t (by rw[a6];rfl)];simp[go_sem];exact .hf _ (HF.sc _)
     |true =>
      simp[go_sem,r,e6,g];refine qd.pure U (.cons (.hf (ze _)) .nil) ?_;cases a0:zb ts.preds[k].body with
      |false =>
       rw[t (by rw[a6,a0];rfl)];simp[go_sem];exact .hf _ (HF.sc _)
      |true =>
       simp[go_sem,e6,g,w1]
       try refine⟨g,Keep.mk' ?_⟩
       try refine Keep.mk' ?_
       refine⟨by simp[go_sem,r],by simp[go_sem],fun i f hi hf=>?_⟩;by_cases a1:i=k
       .subst a1;rw[hg]at hf;cases hf;rw[a6,a0];rfl
       .exact hI i f (by omega) hf
  .have g:k<ts.fields.length:=by omega
   have hg:ts.fields[k]?=some ts.fields[k]:=qz g;have t:fldB o ts.fields[k]=false->yb ts=false:=fun hb=>by
    have:ts.fields.all (fldB o)=false:=List.all_eq_false.2 ⟨_,qy g,by simp[hb]⟩;simp[yb,R,this]
   by_cases c1:1<=ts.fields[k].sorts.length
   case neg =>
    rw[t (by simp[fldB,c1])];have a3:(ts.fields[k].sorts.length:Int)<1:=by omega
    simp[go_sem,r,e3,g,a3];exact .hf _ (HF.sc _)
   have a3:¬(ts.fields[k].sorts.length:Int)<1:=by omega
   by_cases c3:ts.fields[k].sorts.length<=3
   case neg =>
    rw[t (by simp[fldB,c3])];have a7:(3:Int)<ts.fields[k].sorts.length:=by omega
    simp[go_sem,r,e3,g,a3,a7];exact .hf _ (HF.sc _)
   have a7:¬(3:Int)<ts.fields[k].sorts.length:=by omega
   simp[go_sem,r,e3,g,a3,a7];refine qk.upK ts.fields[k].sorts.length (fun j s=>s.tm 1 = .ip (cTS ts)/\s.tm 3=aI k/\s.tm 4=lI ts.fields[k].sorts/\s.tm 5=aI j/\∀ i x,i<j->ts.fields[k].sorts[i]?=some x->0<=x/\x<o) ?_ ?_
   .exact ⟨by simp[go_sem,r],by simp[go_sem,e3],by simp[go_sem],by simp[go_sem],fun i x hi=>absurd hi (by omega)⟩
   .rintro j s I ⟨f1,f3,f4,f5,hJ⟩
    generalize hl:ts.fields[k].sorts=l at *
    by_cases ag:j=l.length
    .have w1:qi.wrap ((k:Int)+1)=(k:Int)+1:=qg (by omega) (by omega)
     have a8:fldB o ts.fields[k]=true:=by
      simp only[fldB,hl,qr,decide_eq_true_eq,qH];refine⟨⟨c1,c3⟩,fun x hx=>?_⟩;obtain⟨i,hi⟩:=List.mem_iff_getElem?.1 hx;exact hJ i x (by have:=(qj.1 hi).1;omega) hi
     simp[go_sem,f3,f4,f5,ag,w1]
     try refine⟨g,Keep.mk' ?_⟩
     try refine Keep.mk' ?_
     refine⟨by simp[go_sem,f1],by simp[go_sem],fun i f hi hf=>?_⟩;by_cases a1:i=k
     .subst a1;rw[hg]at hf;cases hf;exact a8
     .exact hI i f (by omega) hf
    .have C:j<l.length:=by omega
     have w1:qi.wrap ((j:Int)+1)=(j:Int)+1:=qg (by omega) (by omega);have ah:l[j]?=some l[j]:=qz C;by_cases hq:0<=l[j]/\l[j]<o
     .have q1:¬l[j]<0:=by omega
      have q2:¬(o:Int)<=l[j]:=by omega
      simp[go_sem,f4,f5,C];refine qm.intro (by kernel_rfl) ?_;simp[go_sem,f1,f4,f5,C,q1,q2,w1,R]
      try refine⟨C,Keep.mk' ?_⟩
      try refine Keep.mk' ?_
      refine⟨by simp[go_sem,f1],by simp[go_sem,f3],by simp[go_sem,f4],by simp[go_sem],fun i x hi hx=>?_⟩;by_cases ai:i=j
      .subst ai;rw[ah]at hx;cases hx;exact hq
      .exact hJ i x (by omega) hx
     .rw [t (by
       rw[fldB,hl,Bool.and_eq_false_iff];refine .inr (List.all_eq_false.2 ⟨l[j],qy C,?_⟩);simp only[qr,decide_eq_true_eq];exact hq)]
      by_cases q1:l[j]<0
      .simp [go_sem,f4,f5,C]
       refine qm.intro (by kernel_rfl) ?_;simp[go_sem,f4,f5,C,q1];exact .hf _ (HF.sc _)
      .have q2:(o:Int)<=l[j]:=by omega
       simp[go_sem,f4,f5,C];refine qm.intro (by kernel_rfl) ?_;simp[go_sem,f1,f4,f5,C,q1,q2,R];exact .hf _ (HF.sc _)
theorem qe9{ts:TS}(h:yb ts=true)(j:∀ x,x∈ts.sorts->x.1.size<=4611686018427387904):okTS ts/\(∀ p,p∈ts.preds->WfN p.body)/\∀ f,f∈ts.facts->WfN f.2:=by
 simp only[yb,limB,fldB,qr,decide_eq_true_eq,qH]at h;obtain⟨⟨⟨⟨l,o⟩,r⟩,t⟩,hf,i,C⟩:=h;refine⟨⟨l,o,r,t,j,fun f g=>?_,fun p g=>?_⟩,fun p g=>ug (i p g).2,fun f g=>ug (C f g)⟩
 .obtain ⟨⟨a,b⟩,c⟩:=hf f g
  exact⟨a,b,fun x I=>c x I⟩
 .exact qe7 (i p g).1
end Q8
namespace FD
end FD
namespace GF
open E1 EO EQ EW F4 GD
abbrev rP(p:Int×Int):List AV:=[aI p.1,aI p.2]
abbrev lP(ps:List (Int×Int)):AV := .lst false (ps.map rP)
theorem Yh(xs:List (Int×Int)):zj 2 (xs.map rP):=fun r g=>by
 obtain⟨n,_,rfl⟩:=qp.1 g;exact⟨rfl,rfl⟩
abbrev eBd(b:Bd):AV := .agg (cBd b)
theorem Wj(b:Bd):∀ c,c∈cBd b->HF c:=by
 intro c g;simp at g;rcases g with rfl|rfl|rfl|rfl
 .exact HF.sc _
 .exact zi _
 .exact HF.sc _
 .exact zi _
theorem Wk(b:Bd):HF (eBd b):=HF.agg (Wj b)
theorem qfA(x:Bd):qe qc 161 [eBd x] (.fn (.func 238) [] [.ip (cBd x)]):=by
 refine qSV call161 func161 rfl ?_;simp[go_sem];refine .hf _ (HF.fn (fun c g=>by simp at g) (fun c g=>?_));simp at g;subst g;exact HF.ip (Wj x)
def vw(x:Bd):List Int:=x.up.ts.filter fun t=>!decide (t∈x.lo.ts)
theorem qfB{C:Type}(p:C->Bool)(l:List C)(k:Nat)(h:k<l.length)(g:p l[k]=true):(l.filter p)[((l.take k).filter p).length]?=some l[k]:=by
 have e:l=l.take k++l[k] :: l.drop (k+1):=by
  rw[<-zG h,List.take_append_drop]
 have i:l.filter p=(l.take k).filter p++l[k] :: (l.drop (k+1)).filter p:=by
  conv=>lhs;rw[e]
  rw[List.filter_append,List.filter_cons,if_pos g]
 rw[i,qV (qs _)];simp
theorem qfC{C:Type}(p:C->Bool)(l:List C)(k:Nat)(h:k<l.length):((l.take (k+1)).filter p).length=((l.take k).filter p).length+(if p l[k]=true then 1 else 0):=by
 rw[List.take_add_one,qz h,List.filter_append];cases g:p l[k]<;>simp[g]
theorem qfD(x:Bd)(hl:x.up.ts.length<=1000000000)(P:x.lo.ts.length<=1000000000)(hs:x.lo.ts.Pairwise (·<=·)):jm qc 238 [.ip (cBd x)] ((vw x).map fun t=>[aI t]):=by
 refine jm.of call238 fun i I Ix hS hX hY mu h0=>?_
 refine qSW call238 func238 rfl {} ?_;simp[go_sem];refine qk.keep (fun m st=>∃ k,m=x.up.ts.length-k/\k<=x.up.ts.length/\st.tm 0 = .yl i/\st.tm 1 = .ip (cBd x)/\st.tm 9=lI x.up.ts/\st.tm 10=aI x.up.ts.length/\st.tm 11=aI (k:Nat)/\I ((x.up.ts.take k).filter fun t=>!decide (t∈x.lo.ts)).length st.mu) x.up.ts.length ?_ ?_
 .exact ⟨0,by omega,by omega,by simp[go_sem],by simp[go_sem],by simp[go_sem],by simp[go_sem],by simp[go_sem],by simpa[go_sem] using h0⟩
 rintro m st ⟨k,rfl,hk,R,T,U,o,p,J⟩;by_cases r:k<x.up.ts.length
 .simp [go_sem,T,U,o,p,r]
  refine qd.pure (binU x.lo.ts x.up.ts[k] P hs) (.cons (.hf (zi _)) (.cons (.hf (HF.sc _)) .nil)) ?_;have g:=qfC (fun t=>!decide (t∈x.lo.ts)) x.up.ts k r;by_cases j:x.up.ts[k]∈x.lo.ts
  .simp [go_sem,p,j]
   rw[if_neg (by simpa using j),Nat.add_zero]at g;refine Keep.loop (x.up.ts.length-(k+1)) (by omega) ⟨k+1,rfl,by omega,by simp[go_sem,R],by simp[go_sem,T],by simp[go_sem,U],by simp[go_sem,o],?_,?_⟩
   .simp [go_sem];exact qg (by omega) (by omega)
   .rw [g];simpa[go_sem] using J
  .simp [go_sem,R,j]
   rw[if_pos (by simpa using j)]at g;have C:((vw x).map fun t=>[aI t])[((x.up.ts.take k).filter fun t=>!decide (t∈x.lo.ts)).length]?=some [aI x.up.ts[k]]:=by
    rw[zp,vw,qfB _ _ k r (by simpa using j)];rfl
   refine qd.yield (hY _ _ _ C J) ?_;rintro b l (⟨rfl,a0⟩|⟨rfl,a1⟩)
   .simp [go_sem,p]
    refine Keep.loop (x.up.ts.length-(k+1)) (by omega) ⟨k+1,rfl,by omega,by simp[go_sem,R],by simp[go_sem,T],by simp[go_sem,U],by simp[go_sem,o],?_,?_⟩
    .simp [go_sem];exact qg (by omega) (by omega)
    .rw [g];simpa[go_sem] using a0
   .simp [go_sem]
    exact .inr a1
 .have a2:k=x.up.ts.length:=by omega
  subst a2;rw[q8]at J;simp[go_sem,o,p];exact .inl J
def yi(k:Nat)(x:Bd):List (Int×Int):=(vw x).map fun t=>((k:Int),t)
def qE:List Bd->Nat->List (Int×Int)
 | [],_=>[]
 |x :: l,k=>yi k x++qE l (k+1)
theorem pg:∀(l m:List Bd) (k:Nat),qE (l++m) k=qE l k++qE m (k+l.length)
 | [],m,k=>by simp[qE]
 |x :: l,m,k=>by
  rw[yD,qE,qE,pg l m (k+1),zc];have:k+1+l.length=k+(x :: l).length:=by simp;omega
  rw[this]
theorem ph(l:List Bd)(k:Nat)(h:k<l.length):qE (l.take (k+1)) 0=qE (l.take k) 0++yi k l[k]:=by
 rw[List.take_add_one,qz h];show qE (l.take k++[l[k]]) 0=_;rw[pg];have:(l.take k).length=k:=by simp;omega
 rw[this,yf];simp[qE]
structure w7 (x:Bd):Prop where
 up:x.up.ts.length<=1000000
 lo:x.lo.ts.length<=1000000
 sorted:x.lo.ts.Pairwise (·<=·)
theorem Vb:∀(l:List Bd) (k:Nat),(∀ x,x∈l->w7 x)->(qE l k).length<=l.length*1000000
 | [],k,_=>by simp[qE]
 |x :: l,k,h=>by
  have i:=Vb l (k+1) (fun y g=>h y (by simp[g]));have j:(yi k x).length<=1000000:=by
   rw[yi,zH];exact zY (List.length_filter_le _ _) (h x (by simp)).up
  simp only[qE,qX,zu];omega
theorem Own.rdP2{mu:Mu}{av:AV}{xs:List (Int×Int)}(h:Own mu 2 av (xs.map rP)):Rd mu av (lP xs):=
 h.rd (Yh xs).ok fun r i c g=>by
  obtain⟨n,_,rfl⟩:=qp.1 i;simp at g;rcases g with rfl|rfl<;>exact HF.sc _
theorem Wl(o:List Bd)(hl:o.length<=1000)(hb:∀ x,x∈o->w7 x):qe qc 79 [lBd o] (lP (qE o 0)):=by
 refine qSV call79 func79 rfl ?_;simp[go_sem];refine qk.keep (fun m st=>∃ k P I,m=o.length-k/\k<=o.length/\st.tm 3 = .ptr 0 0/\st.tm 7=lBd o/\st.tm 8=aI o.length/\st.tm 9=aI (k:Nat)/\st.mu = .arr [P] :: I/\Own st.mu 2 P ((qE (o.take k) 0).map rP)/\qv P≠some 0) o.length ?_ ?_
 .refine ⟨0,.lst true [],[],by omega,by omega,by simp[go_sem],by simp[go_sem],by simp[go_sem],by simp[go_sem],by simp[go_sem],?_,by simp[qv]⟩
  simp[go_sem,qE];exact .inl rfl
 rintro m st ⟨k,P,I,rfl,hk,e3,e7,e8,e9,hm,ho,ad⟩;by_cases a1:k<o.length
 .have hx:=hb _ (qy a1)
  have aj:(qE (o.take (k+1)) 0).length<=1000000000:=by
   have:=Vb (o.take (k+1)) 0 (fun y hy=>hb y (vg hy));have U:(o.take (k+1)).length<=1000:=by simp;omega
   have h3:=Nat.mul_le_mul_right 1000000 U;omega
  have R:=ph o k a1;rw[hm]at ho;have ae:qv P≠some (I.length+1):=fun h=>by have:=Own.lt ho h;simp at this
  simp[go_sem,e7,e8,e9,hm,a1];refine qd.pure (qfA o[k]) (.cons (.hf (Wk _)) .nil) ?_;simp[go_sem];refine vV.keep (qfD o[k] (by have:=hx.up;omega) (by have:=hx.lo;omega) hx.sorted) (fun j M=>∃ P C,M = .arr [P] :: C/\M[I.length+1]?=some (.arr [aI k])/\Own M 2 P ((qE (o.take k) 0++(yi k o[k]).take j).map rP)/\qv P≠some 0/\qv P≠some (I.length+1)) (fun _ _=>False) ?_ ?_ ?_ ?_ ?_ ?_
  .refine ⟨P,_,by simp only[zl,yD];rfl,by simp[go_sem],?_,ad,ae⟩
   have:=Own.push ho [Cell.arr [aI k],Cell.arr (cBd o[k]),.dead];simpa[go_sem] using this
  .rintro j M ⟨P,C,rfl,h1,U,h3,h4⟩
   exact⟨P,C++[.dead],rfl,by rw[qx (qj.1 h1).1];exact h1,Own.push U _,h3,h4⟩
  .intro e M h;exact h
  .rintro j x M hj ⟨P,C,rfl,h1,U,h3,h4⟩
   rw[zp,yG]at hj;obtain⟨t,ht,rfl⟩:=hj;have al:j<(vw o[k]).length:=(qj.1 ht).1;have af:(yi k o[k]).take (j+1)=(yi k o[k]).take j++[((k:Int),t)]:=by
    rw[List.take_add_one];have:(yi k o[k])[j]?=some ((k:Int),t):=by rw[yi,zp,ht];rfl
    rw[this];rfl
   have ag:(qE (o.take k) 0++(yi k o[k]).take j).length<=1000000000:=by
    have:(qE (o.take k) 0++(yi k o[k]).take j).length<=(qE (o.take (k+1)) 0).length:=by
     rw[R,qX,qX,vK];omega
    omega
   refine⟨rfl,?_⟩;have ah:=(qj.1 h1).1;have a5:=h1;simp at a5;simp[go_sem,e3,a5];refine qD.ownB (e:=141) (sz:=2) (bt:=16) (zv := .agg [aI 0,aI 0]) (xs:=(qE (o.take k) 0++(yi k o[k]).take j).map rP) (ys:=[rP ((k:Int),t)]) (by simp[go_sem]) (by simp[go_sem]) (by simp[go_sem]) rfl rfl (by omega) (by omega) U (by simp[qM]) (Yh _) (Yh [((k:Int),t)]) (by simp at ag⊢;omega) ?_;intro T l a2 a6 a7 an;have a3:=a6 0 (by simp) h3;have a8:=a6 (I.length+1) ah h4;rw[h1]at a8;obtain⟨J,rfl⟩:∃ J,l = .arr [P] :: J:=by
    cases l with
    |nil=>simp at a3
    |cons c r=>simp at a3;exact⟨r,by rw[a3]⟩
   have a0:qv T≠some 0:=fun h=>by have:=a7 _ h;simp at this
   have a9:qv T≠some (I.length+1):=fun h=>by have:=a7 _ h;omega
   have aa:=Own.set a2 (i:=0) (.arr [T]) a0;have ab:(qE (o.take k) 0++(yi k o[k]).take j).map rP++[rP ((k:Int),t)]=(qE (o.take k) 0++(yi k o[k]).take (j+1)).map rP:=by
    rw[af,<-zc,zg (l₂:=[((k:Int),t)])];rfl
   rw[ab]at aa;simp[go_sem,e3,Own.one a2,Own.cells a2];exact uL.intro ⟨T,J,rfl,by simpa using a8,by simpa using aa,a0,a9⟩
  .rintro M ⟨P,C,rfl,h1,U,h3,h4⟩
   have a4:(yi k o[k]).take ((vw o[k]).map fun t=>[aI t]).length=yi k o[k]:=by
    rw[zH,zN (by rw[yi,zH];exact qs _)]
   rw[a4,<-R]at U;simp[go_sem,e9];refine Keep.loop (o.length-(k+1)) (by omega) ⟨k+1,P,C,rfl,by omega,by simp[go_sem,e3],by simp[go_sem,e7],by simp[go_sem,e8],?_,by simp[go_sem],by simpa[go_sem] using U,h3⟩;simp[go_sem];exact qg (by omega) (by omega)
  .intro e M h;exact h.elim
 .have ai:k=o.length:=by omega
  subst ai;rw[q8,hm]at ho;simp[go_sem,e3,e8,e9,hm];exact Own.rdP2 ho
end GF
namespace GH
open P1 YF E3 EO EQ ER EW F1 F4 GF GG
abbrev lMd(l:List Md):AV := .lst false (l.map cMd)
theorem Wm(xs:List Md):zj 4 (xs.map cMd):=fun r g=>by
 obtain⟨n,_,rfl⟩:=qp.1 g;exact⟨rfl,rfl⟩
theorem Wn:∀(r c x:List (List AV)),x∈subL c r->∀ y,y∈x->y∈c\/y∈r
 | [],c,x,h,y,g=>by rw[subL,qN]at h;subst h;exact .inl g
 |z :: r,c,x,h,y,g=>by
  rw[subL,qG]at h;rcases h with h|h
  .rcases Wn r c x h y g with h|h
   .exact .inl h
   .exact .inr (by simp[h])
  .rcases Wn r _ x h y g with h|h
   .rcases qG.1 h with h|h
    .exact .inl h
    .rw [qN]at h;subst h;exact .inr (by simp)
   .exact .inr (by simp[h])
def jF(g:Nat->List (List AV)->Md)(cs:List (List AV))(k:Nat):List Md:=(qt k).flatMap fun s=>(subL [] cs).map (g s)
theorem Wo(g:Nat->List (List AV)->Md)(cs:List (List AV))(k:Nat):jF g cs (k+1)=jF g cs k++(subL [] cs).map (g k):=by
 unfold jF;rw[List.range_succ,List.flatMap_append];simp
theorem Vc(g:Nat->List (List AV)->Md)(cs:List (List AV)):∀ k,(jF g cs k).length=k*(subL [] cs).length
 | 0=>by simp[jF]
 |k+1=>by rw[Wo,qX,Vc g cs k,zH,Nat.succ_mul]
theorem Own.rdMd{mu:Mu}{av:AV}{xs:List Md}(h:Own mu 4 av (xs.map cMd)):Rd mu av (lMd xs):=
 h.rd (Wm xs).ok fun r i c g=>by
  obtain⟨n,_,rfl⟩:=qp.1 i;simp at g;rcases g with rfl|rfl|rfl|rfl<;>first|exact HF.sc _|exact zi _|exact Z9 _
theorem qfE(ts:TS)(sc:Sc)(bs:List Bd)(cs:List (List AV))(o:Nat->List (List AV)->Md)(S:Nat)(hS:sc.steps=S)(b2:S<=4)(hr:uM cs)(hl:cs.length<=14)(ax:S*(subL [] cs).length<=1000000)
  (ai:S*2 ^ cs.length<=16384)
  (R:qe qc 82 [eTS ts,eSc sc] (aB true)) (h2:qe qc 83 [eTS ts,eSc sc,lBd bs] (aB true)) (h3:qe qc 84 [eTS ts,eSc sc,lBd bs] (.lst false cs))
  (hi:∀ k,k<S->∀ c,c∈subL [] cs->qe qc 86 [eTS ts,eSc sc,lBd bs,aI (k:Nat),.lst false c] (eMd (o k c))):qe qc 29 [eTS ts,eSc sc,lBd bs] (.tup [lMd (jF o cs S),aI 0]):=by
 refine qSV call29 func29 rfl ?_;simp[go_sem];refine qd.pure R (.cons (.hf (zq _)) (.cons (.hf (zA _)) .nil)) ?_;simp[go_sem];refine qd.pure h2 (.cons (.hf (zq _)) (.cons (.hf (zA _)) (.cons (.hf (j6 _)) .nil))) ?_;simp[go_sem];refine qd.pure h3 (.cons (.hf (zq _)) (.cons (.hf (zA _)) (.cons (.hf (j6 _)) .nil))) ?_;have aj:¬(14:Int)<cs.length:=by omega
 have n0:¬(cs.length:Int)<0:=by omega
 have t:min cs.length 64=cs.length:=by omega
 have ay:(S:Int)*2 ^ cs.length<=16384:=by exact_mod_cast ai
 have az:(0:Int)<=(S:Int)*2 ^ cs.length:=by exact_mod_cast Nat.zero_le _
 have ak:qi.wrap ((S:Int)*2 ^ cs.length)=(S:Int)*2 ^ cs.length:=qg (by omega) (by omega);have al:¬(16384:Int)<(S:Int)*2 ^ cs.length:=by omega
 simp[go_sem,aj,hS,n0,t,ak,al];refine qk.keep (fun m st=>∃ k P I,m=S-k/\k<=S/\st.tm 3 = .ip (cTS ts)/\st.tm 4 = .ip [lI sc.atoms,aI sc.steps]/\st.tm 5 = .ip [lBd bs]/\st.tm 8 = .lst false cs/\st.tm 9 = .ptr 0 0/\st.tm 39=aI S/\st.tm 40=aI (k:Nat)/\st.mu = .arr [P] :: I/\Own st.mu 4 P ((jF o cs k).map cMd)/\qv P≠some 0) S ?_ ?_
 .refine ⟨0,.lst true [],[],by omega,by omega,by simp[go_sem],by simp[go_sem,hS],by simp[go_sem],by simp[go_sem],by simp[go_sem],by simp[go_sem],by simp[go_sem],by simp[go_sem],?_,by simp[qv]⟩
  simp[go_sem,jF];exact .inl rfl
 rintro m st ⟨k,P,I,rfl,hk,e3,e4,e5,e8,e9,a1,a2,hm,ho,an⟩;by_cases a8:k<S
 .have ao:=Vc o cs (k+1)
  have b0:=Nat.mul_le_mul_right (subL [] cs).length (show k+1<=S by omega);have a3:=Wo o cs k;rw[hm]at ho;have aq:qv P≠some (I.length+1):=fun h=>by have:=Own.lt ho h;simp at this
  simp[go_sem,e8,a1,a2,hm,a8];refine qd.pure (qeL cs hr) (.cons (.hf (HF.lst fun r a4 x T=>(hr r a4).2.2 x T)) .nil) ?_;simp[go_sem];refine vV.keep (qeK cs hr (by omega)) (fun j M=>∃ P C,M = .arr [P] :: C/\M[I.length+1]?=some (.arr [aI k])/\Own M 4 P ((jF o cs k++((subL [] cs).map (o k)).take j).map cMd)/\qv P≠some 0/\qv P≠some (I.length+1)) (fun _ _=>False) ?_ ?_ ?_ ?_ ?_ ?_
  .refine ⟨P,_,by simp only[zl,yD];rfl,by simp[go_sem],?_,an,aq⟩
   have:=Own.push ho [Cell.arr [aI k],.dead];simpa[go_sem] using this
  .rintro j M ⟨P,C,rfl,R,h2,h3,h4⟩
   exact⟨P,C++[.dead],rfl,by rw[qx (qj.1 R).1];exact R,Own.push h2 _,h3,h4⟩
  .intro e M h;exact h
  .rintro j x M hj ⟨P,C,rfl,R,h2,h3,h4⟩
   rw[zp,yG]at hj;obtain⟨c,hc,rfl⟩:=hj;have b3:j<(subL [] cs).length:=(qj.1 hc).1;have a9:c∈subL [] cs:=q9 hc;have ar:((subL [] cs).map (o k)).take (j+1)=((subL [] cs).map (o k)).take j++[o k c]:=by
    rw[List.take_add_one];have:((subL [] cs).map (o k))[j]?=some (o k c):=by rw[zp,hc];rfl
    rw[this];rfl
   refine⟨rfl,?_⟩;have au:=(qj.1 R).1;have aa:=R;simp at aa;simp[go_sem];refine qm.intro (by kernel_rfl) ?_;simp[go_sem,e3,e4,e5,e9,aa];refine qd.pure (hi k a8 c a9) (.cons (.hf (zq _)) (.cons (.hf (zA _)) (.cons (.hf (j6 _)) (.cons (.hf (HF.sc _)) (.cons (.hf (HF.lst ?_)) .nil))))) ?_
   .exact fun r a4 x T=>(hr r (by rcases Wn cs [] c a9 r a4 with h|h;exact absurd h (by simp);exact h)).2.2 x T
   simp[go_sem];refine qD.ownB (e:=33) (sz:=4) (bt:=64) (zv := .agg [.lst true [],aI 0,.lst true [],aI 0]) (xs:=jF o cs k++((subL [] cs).map (o k)).take j |>.map cMd) (ys:=[cMd (o k c)]) (by simp[go_sem]) (by simp[go_sem]) (by simp[go_sem]) rfl rfl (by omega) (by omega) h2 (by simp[qM]) (Wm _) (Wm [o k c]) ?_ ?_
   .have b4:=Vc o cs k
    rw[Wo,qX,zH]at ao;simp;omega
   intro U l a5 ab ad b5;have a6:=ab 0 (by simp) h3;have ae:=ab (I.length+1) au h4;rw[R]at ae;obtain⟨J,rfl⟩:∃ J,l = .arr [P] :: J:=by
    cases l with
    |nil=>simp at a6
    |cons c r=>simp at a6;exact⟨r,by rw[a6]⟩
   have a0:qv U≠some 0:=fun h=>by have:=ad _ h;simp at this
   have af:qv U≠some (I.length+1):=fun h=>by have:=ad _ h;omega
   have ag:=Own.set a5 (i:=0) (.arr [U]) a0;have ah:(jF o cs k++((subL [] cs).map (o k)).take j).map cMd++[cMd (o k c)]=(jF o cs k++((subL [] cs).map (o k)).take (j+1)).map cMd:=by
    rw[ar,<-zc,zg (l₂:=[o k c])];rfl
   rw[ah]at ag;simp[go_sem,e9,Own.one a5,Own.cells a5];exact uL.intro ⟨U,J,rfl,by simpa using ae,by simpa using ag,a0,af⟩
  .rintro M ⟨P,C,rfl,R,h2,h3,h4⟩
   have a7:((subL [] cs).map (o k)).take ((subL [] cs).map fun c=>[AV.lst false c]).length=(subL [] cs).map (o k):=by
    rw[zH,zN (by simp)]
   rw[a7,<-a3]at h2;simp[go_sem,a2];refine Keep.loop (S-(k+1)) (by omega) ⟨k+1,P,C,rfl,by omega,by simp[go_sem,e3],by simp[go_sem,e4],by simp[go_sem,e5],by simp[go_sem,e8],by simp[go_sem,e9],by simp[go_sem,a1],?_,by simp[go_sem],by simpa[go_sem] using h2,h3⟩;simp[go_sem];exact qg (by omega) (by omega)
  .intro e M h;exact h.elim
 .have aw:k=S:=by omega
  subst aw;rw[hm]at ho;simp[go_sem,e9,a1,a2,hm];refine .tup _ _ rfl fun j x y T hy=>?_
  match j with
  | 0=>simp at T hy;subst T;subst hy;exact Own.rdMd ho
  | 1=>simp at T hy;subst T;subst hy;exact .hf _ (HF.sc _)
  |j+2=>simp at T
end GH
namespace JE
open E4 F1 JB JC
section
variable {l:List (j1×je)}
def Vd:List (j1×je)->j1->Option je
 | [],_=>none
 |p :: l,f=>if f=p.1 then some p.2 else Vd l f
def pi(f:j1)(c:List AV):Bool:=match c with
 | [.ip [.lst _ []]]=>f == 297
 |_=>false
def envL(l:List (j1×je)):EnvJ:=⟨Vd l,pi,fun _=>[],fun f=>calL.any fun x=>x.1 == f⟩
theorem pj{P:qb}:∀{l:List (j1×je)},(∀ p,p∈l->jn P p.1 p.2)->∀ f h,Vd l f=some h->jn P f h
 | [],_,_,_,h=>by cases h
 |p :: l,g,f,h,e=>by
  unfold Vd at e;split at e
  .rename_i i;cases e;subst i;exact g p (qU ..)
  .exact pj (fun q j=>g q (qO _ j)) f h e
theorem Wp(g:∀ p,p∈l->jn qc p.1 p.2):qZ qc (envL l):=by
 refine⟨pj g,fun f hf=>?_,fun f c h=>?_⟩
 .simp only[envL,List.any_eq_true,beq_iff_eq]at hf
  obtain⟨x,_,rfl⟩:=hf;exact x.2
 .simp only[envL,pi]at h
  split at h
  .rw [beq_iff_eq]at h;subst h;exact backX _
  .cases h
theorem qe.wk{P:qb}{f:j1}{args:List AV}{v w:AV}(h:qe P f args v)(k:WK v w):qe P f args w:=by
 exact⟨h.1,fun i w j l o=>(h.2 i w j l o).mono fun e J ⟨g,u,p,r,t,C,I⟩=>⟨g,u,p,r,t,C,k _ _ _ I⟩⟩
noncomputable def Ve(E:EnvJ)(n:Nat)(f:j1)(args:List AV)(w:AV):Bool:=match Z1 qc E n f args with
 |some v=>hfB 64 v&&eqV 64 (nV 64 v) w
 |none=>false
theorem uR{E:EnvJ}(g:qZ qc E){n:Nat}{f:j1}{args:List AV}{w:AV}(h:Ve E n f args w=true):qe qc f args w:=by
 unfold Ve at h;split at h
 .rename_i v i
  rw[qr]at h;rw[<-Qu h.2];exact qe.wk (UO g i) (UN 64 64 v h.1)
 .cases h
theorem qfF{i j l o p t C I J P R T e4 x:AV}{r:Bool}(ho:[i,j,l,o,p,t,C,I,J,P,R,T,e4].all AV.one=true)(ha:HF (.agg [i,j,l,o]))(hb:HF (.agg [p,t,C,I]))(he:HF (.agg [J,P,R,T,e4]))(hx:HF x)(h1:qe qc 70 [.agg [i,j,l,o],.agg [p,t,C,I]] x)(h2:qe qc 71 [x,.agg [aI 0,.lst false []],.agg [J,P,R,T,e4]] (aB r)) :
  qe qc 23 [.agg [i,j,l,o],.agg [p,t,C,I],aI 0,.lst false [],.agg [J,P,R,T,e4]] (.tup [aB r,aI 0]):=by
 simp only[List.all_cons,List.all_nil,Bool.and_true,qr]at ho;obtain⟨o0,o1,o2,o3,o4,o5,o6,o7,o8,o9,oa,ob,oc⟩:=ho;refine UR.toP ?_;refine JQ.of_sound ?_;refine qP.of_awpD call23 func23 rfl (yj (by kernel_rfl)) (by kernel_rfl) (pl:={}) ?_;simp[go_sem,o0,o1,o2,o3,o4,o5,o6,o7,o8,o9,oa,ob,oc];refine wV.intro (g:=69) (first:=[]) (caps:=[]) (by simp[go_sem]) call69 ?_;simp[go_sem];refine qm.tail 7 (by kernel_rfl) ?_;simp[go_sem];refine qd.pure h1 (.cons (.hf ha) (.cons (.hf hb) .nil)) ?_;simp[go_sem];refine qd.pure h2 (.cons (.hf hx) (.cons (.hf (HF.agg fun c hc=>by
  simp at hc;rcases hc with rfl|rfl
  .exact HF.sc _
  .exact HF.lst fun r hr=>by simp at hr)) (.cons (.hf he) .nil))) ?_
 simp[go_sem];refine jp.mono (qd6 [.arr [aI 0]] 0 0 rfl) ?_;rintro _ rfl;simp[go_sem];exact .hf _ (HF.tup (by simp only[qw,qI,or_false,forall_eq_or_imp,forall_eq];exact⟨HF.sc _,HF.sc _⟩))
noncomputable def Wq(l:List (j1×je)):List AV->Option AV:=fun args=>match args with
 | [.agg [g,i,j,o],.agg [p,t,C,I],.sc (.int .i64 0),.lst false [],.agg [J,P,R,T,U]]=>match Z1 qc (envL l) 2000 70 [.agg [g,i,j,o],.agg [p,t,C,I]] with
  |some x=>match Z1 qc (envL l) 2000 71 [x,.agg [aI 0,.lst false []],.agg [J,P,R,T,U]] with
   |some (.sc (.bool r))=>if [g,i,j,o,p,t,C,I,J,P,R,T,U].all AV.one&&(hfB 64 x&&allJ (hfB 64) [.agg [g,i,j,o],.agg [p,t,C,I],.agg [J,P,R,T,U]]) then some (.tup [aB r,aI 0]) else none
   |_=>none
  |none=>none
 |_=>none
theorem qfG(i:qZ qc (envL l)):jn qc 23 (j5 (Wq l)):=by
 refine ZZ fun args v h=>?_
 unfold Wq at h;split at h
 .rename_i j o p t C I J P R T U e3 e4
  split at h
  .rename_i x h1
   split at h
   .rename_i r h2
    split at h
    .rename_i g
     cases h;rw[qr,qr]at g;exact qfF g.1 (j0 (jD g.2.2 (.agg [j,o,p,t]) (by simp))) (j0 (jD g.2.2 (.agg [C,I,J,P]) (by simp))) (j0 (jD g.2.2 (.agg [R,T,U,e3,e4]) (by simp))) (j0 g.2.1) (UO i h1) (UO i h2)
    .cases h
   .cases h
  .cases h
 .cases h
end
end JE
namespace JF
def bA(l:List UInt8):ByteArray:=⟨⟨l⟩⟩
end JF
namespace G5
open E9 EO EQ
theorem Wr(sc:Sc)(g:GSc sc)(n:Nat)(J:n<=1000000):qe qc 305 [eSc sc,aI n] (aI (sumI (sc.atoms.take n))):=by
 have P:=g.1;refine qSV call305 func305 rfl ?_;simp[go_sem];refine qk.up (min n sc.atoms.length) (fun k st=>st.tm 1=aI n/\st.tm 2 = .ip [lI sc.atoms,aI sc.steps]/\st.tm 5=aI (sumI (sc.atoms.take k))/\st.tm 6=aI k) ?_ ?_
 .simp [go_sem,sumI]
 rintro k st R ⟨l,C,o,p⟩;by_cases j:k<n
 .by_cases i:k<sc.atoms.length
  .have I:=uG sc.atoms k i
   have r:=g.sum (k+1);rw[I]at r;simp[go_sem,l,C,o,p,j,i];exact⟨by omega,by rw[I,qg (by omega) (by omega)],qg (by omega) (by omega)⟩
  .have e:sc.atoms.take n=sc.atoms.take k:=by rw[zN (by omega),zN (by omega)]
   rw[e];simp[go_sem,l,C,o,p,j,i];exact .hf _ (HF.sc _)
 .have t:k=n:=by omega
  subst t;simp[go_sem,l,o,p];exact .hf _ (HF.sc _)
theorem pm(sc:Sc)(g:GSc sc):qe qc 271 [eSc sc] (aI (sumI sc.atoms)):=by
 have i:=g.1;have h:=Wr sc g sc.atoms.length (by omega);rw[q8]at h;refine qSV call271 func271 rfl ?_;simp[go_sem];refine qd.pure h (.cons (.hf (zA _)) (.cons (.hf (HF.sc _)) .nil)) ?_;simp[go_sem];exact .hf _ (HF.sc _)
theorem Za(n:Int)(g:0<=n)(i:n<=20):∀ k:Nat,k<=3->0<=n ^ k/\n ^ k<=8000
 | 0,_=>by simp
 | 1,_=>by rw[show n ^ 1=n by rw[Int.pow_succ,Int.pow_zero,Int.one_mul]];omega
 | 2,_=>by
  have:n*n<=20*20:=vh i i g (by omega);have l:=Int.mul_nonneg g g;rw[show n ^ 2=n*n by rw[Int.pow_succ,Int.pow_succ,Int.pow_zero,Int.one_mul]];omega
 | 3,_=>by
  have l:n*n<=20*20:=vh i i g (by omega);have j:=Int.mul_nonneg g g;have p:n*n*n<=400*20:=vh l i g (by omega);have o:=Int.mul_nonneg j g;rw[show n ^ 3=n*n*n by rw[Int.pow_succ,Int.pow_succ,Int.pow_succ,Int.pow_zero,Int.one_mul]];omega
 |k+4,h=>by omega
theorem pn(sc:Sc)(g:GSc sc)(n:Nat)(J:n<=3):qe qc 228 [eSc sc,aI n] (aI (sumI sc.atoms ^ n)):=by
 have j:=g.sum sc.atoms.length;rw[q8]at j;refine qSV call228 func228 rfl ?_;simp[go_sem];refine qk.up n (fun k st=>st.tm 1=aI n/\st.tm 2 = .ip [lI sc.atoms,aI sc.steps]/\st.tm 5=aI (sumI sc.atoms ^ k)/\st.tm 6=aI k) ?_ ?_
 .simp [go_sem]
 rintro k st P ⟨l,r,t,o⟩;by_cases i:k<n
 .have C:=Za (sumI sc.atoms) j.1 j.2 (k+1) (by omega)
  have e:sumI sc.atoms ^ (k+1)=sumI sc.atoms ^ k*sumI sc.atoms:=Int.pow_succ ..;rw[e]at C;have I:(k:Int)<3:=by omega
  simp[go_sem,l,r,t,o,i,I];refine qd.pure (pm sc g) (.cons (.hf (zA _)) .nil) ?_;simp[go_sem,l,r,o,i];exact⟨by rw[e,qg (by omega) (by omega)],qg (by omega) (by omega)⟩
 .have p:k=n:=by omega
  subst p;simp[go_sem,l,t,o];exact .hf _ (HF.sc _)
theorem pp(l:List Int)(x:Int)(g:∀ a,a∈l->0<=a):∀(k:Nat) (i:Int),k<=l.length->sumI (l.take k)<=x->ud l x i=ud (l.drop k) (x-sumI (l.take k)) (i+k):=by
 intro k;induction k with
 |zero=>intro i _ _;simp[sumI]
 |succ k j =>
  intro i p r;have o:=uG l k (by omega);have t:=g _ (qy (show k<l.length by omega));rw[j i (by omega) (by omega),kT l k _ _ (by omega),if_neg (by omega),o];congr 1<;>omega
theorem qfH(sc:Sc)(g:GSc sc)(x:Nat)(T:x<=1000):qe qc 272 [eSc sc,aI x] (aI (vt sc x)):=by
 have U:=g.1;have l:∀ a,a∈sc.atoms->0<=a:=fun a R=>(g.2 a R).1
 refine qSV call272 func272 rfl ?_;simp[go_sem];refine qk.up sc.atoms.length (fun k st=>st.tm 1=aI x/\st.tm 2 = .ip [lI sc.atoms,aI sc.steps]/\st.tm 5=aI k/\sumI (sc.atoms.take k)<=x) ?_ ?_
 .simp [go_sem,sumI]
 rintro k st I ⟨r,p,o,t⟩;by_cases j:k<sc.atoms.length
 .have hs:=uG sc.atoms k j
  have i:=pp sc.atoms x l k 0 I t;rw[kT sc.atoms k _ _ j]at i;have J:qi.wrap ((k:Int)+1)=((k+1:Nat):Int):=by rw[qg (by omega) (by omega)];omega
  simp[go_sem,r,p,o,j];refine qd.pure (Wr sc g k (by omega)) (.cons (.hf (zA _)) (.cons (.hf (HF.sc _)) .nil)) ?_;simp[go_sem,r,p,o,t,J];refine qd.pure (Wr sc g (k+1) (by omega)) (.cons (.hf (zA _)) (.cons (.hf (HF.sc _)) .nil)) ?_;by_cases P:(x:Int)<sumI (sc.atoms.take (k+1))
  .have e:vt sc x=k:=by
    unfold vt;rw[i,if_pos (by omega)];omega
   rw[e];simp[go_sem,o,P];exact .hf _ (HF.sc _)
  .simp [go_sem,r,p,o,j,P,J]
   omega
 .have C:k=sc.atoms.length:=by omega
  subst C;have e:vt sc x = -1:=by
   unfold vt;rw[pp sc.atoms x l sc.atoms.length 0 I t,yH];rfl
  rw[e];simp[go_sem,p,o];exact .hf _ (HF.sc _)
def digs(n:Int):Nat->Int->List Int
 | 0,_=>[]
 |k+1,r=>digs n k (r / n)++[r % n]
theorem Zb(n:Int):∀(k:Nat) (r:Int),(digs n k r).length=k
 | 0,_=>rfl
 |k+1,r=>by rw[digs,qX,Zb n k];rfl
theorem pq(n:Int):∀(j:Nat) (x:Int),divN n (x / n) j=divN n x (j+1)
 | 0,x=>rfl
 |j+1,x=>by rw[divN,pq n j x];rfl
theorem pr(n:Int):∀(j:Nat) (r:Int),digs n (j+1) r=(divN n r j % n) :: digs n j r
 | 0,r=>by simp[digs,divN]
 |j+1,r=>by
  rw[digs,pr n j (r / n),pq,yD];rfl
theorem Ws(n r:Int)(i:0<n)(g:0<=r):∀ j,0<=divN n r j/\divN n r j<=r
 | 0=>⟨g,by simp[divN]⟩
 |j+1=>by
  have:=Ws n r i g j;rw[divN];have l:=Int.ediv_le_self n this.1;exact⟨Int.ediv_nonneg this.1 (by omega),by omega⟩
theorem qfI{mu:Mu}{b:Nat}{cells:List AV}{ds:List Int}(o:mu[b]?=some (.arr cells))(h:∀ i (I:i<ds.length),cells[i]?=some (aI ds[i])):Rd mu (.sl b 1 0 ds.length) (lI ds):=by
 refine .sl b 1 0 ds.length cells (ds.map rI) o ?_ (by simp) (fun r p=>by obtain⟨x,_,rfl⟩:=qp.1 p;rfl) fun k x y g l=>?_
 .by_cases J:ds.length=0
  .omega
  .have:=h (ds.length-1) (by omega)
   have:=(qj.1 this).1;omega
 .rw [yf]at g
  rw[GD.Qx,zp,yG]at l;obtain⟨z,t,rfl⟩:=l;have C:=(qj.1 t);obtain⟨j,rfl⟩:=C;rw[h k j]at g;cases g;exact .hf _ (HF.sc _)
theorem qfJ(sc:Sc)(g:GSc sc)(hp:0<sumI sc.atoms)(k:Nat)(hk:k<=3)(r:Nat)(hr:(r:Int)<sumI sc.atoms ^ k):qe qc 229 [eSc sc,aI k,aI r] (lI (digs (sumI sc.atoms) k r)):=by
 have hs:=g.sum sc.atoms.length;rw[q8]at hs;have a7:=Za (sumI sc.atoms) hs.1 hs.2 k hk;refine qSV call229 func229 rfl ?_;have a1:¬(3:Int)<k:=by omega
 have a2:¬(k:Int)<0:=by omega
 have a3:¬(r:Int)<0:=by omega
 simp[go_sem,a1,a2,a3];refine qd.pure (pn sc g k hk) (.cons (.hf (zA _)) (.cons (.hf (HF.sc _)) .nil)) ?_;have a4:¬sumI sc.atoms ^ k<=(r:Int):=by omega
 simp[go_sem,a4];refine qd.pure (pm sc g) (.cons (.hf (zA _)) .nil) ?_;generalize hN:sumI sc.atoms=N at *
 have w0:qi.wrap ((k:Int)-1)=(k:Int)-1:=qg (by omega) (by omega);simp[go_sem,w0];refine qk.keep (fun m st=>∃ j:Nat,m=k-j/\j<=k/\st.tm 1=aI k/\st.tm 7 = .sl 0 1 0 3/\st.tm 8=aI N/\st.tm 9=aI (divN N r j)/\st.tm 10=aI ((k:Int)-1-j)/\∃ c0 c1 c2,st.mu=[.arr [aI c0,aI c1,aI c2]]/\∀ i (R:i<j),[c0,c1,c2][k-j+i]?=some ((digs N j r)[i]'(by rw[Zb];exact R))) k ?_ ?_
 .exact ⟨0,by omega,by omega,by simp[go_sem],by simp[go_sem],by simp[go_sem],by simp[go_sem,divN],by simp[go_sem],0,0,0,by simp[go_sem],fun i R=>by omega⟩
 rintro m st ⟨j,rfl,hj,e1,C,T,e9,o,c0,c1,c2,hm,hc⟩;by_cases a8:j<k
 .obtain ⟨d,rfl⟩:∃ d:Nat,k=j+1+d:=⟨k-(j+1),by omega⟩
  have t:d=0\/d=1\/d=2:=by omega
  have ex:(((j+1+d:Nat):Int)-1-j)=(d:Int):=by omega
  rw[ex]at o;have U:=Ws N r hp (by omega) j;have a9:(r:Int)<=8000:=by omega
  have hq:(divN N r j).tdiv N=divN N r (j+1):=by rw[divN,Int.tdiv_eq_ediv_of_nonneg U.1]
  have J:(divN N r j).tmod N=divN N r j % N:=Int.tmod_eq_emod_of_nonneg U.1;have a6:=Ws N r hp (by omega) (j+1);have w1:qi.wrap (divN N r (j+1))=divN N r (j+1):=qg (by omega) (by omega);have P:¬N=0:=by omega
  have p:(digs N (j+1) r)=(divN N r j % N) :: digs N j r:=pr N j r;have a0:=Zb N j r;rcases t with t|t|t
  .have l:st.tm 10=aI 0:=by rw[o,t];rfl
   have w2:qi.wrap (-1) = -1:=qg (by omega) (by omega);simp[go_sem,C,T,e9,l,hm,P,hq,J,w1,w2];refine Keep.loop (j+1+d-(j+1)) (by omega) ⟨j+1,rfl,by omega,by simp[go_sem,e1],by simp[go_sem,C],by simp[go_sem,T],by simp[go_sem],by simp[go_sem];omega,divN N r j % N,c1,c2,by simp[go_sem],fun i R=>?_⟩;cases i with
   |zero=>simp[p,t]
   |succ i =>
    have:=hc i (by omega);rw[show j+1+d-j+i=i+1 by omega]at this;rw[show j+1+d-(j+1)+(i+1)=i+1 by omega];simp[p]at this⊢
    try exact this
  .have l:st.tm 10=aI 1:=by rw[o,t];rfl
   have w2:qi.wrap (0)=0:=qg (by omega) (by omega);simp[go_sem,C,T,e9,l,hm,P,hq,J,w1,w2];refine Keep.loop (j+1+d-(j+1)) (by omega) ⟨j+1,rfl,by omega,by simp[go_sem,e1],by simp[go_sem,C],by simp[go_sem,T],by simp[go_sem],by simp[go_sem];omega,c0,divN N r j % N,c2,by simp[go_sem],fun i R=>?_⟩;cases i with
   |zero=>simp[p,t]
   |succ i =>
    have:=hc i (by omega);rw[show j+1+d-j+i=i+2 by omega]at this;rw[show j+1+d-(j+1)+(i+1)=i+2 by omega];simp[p]at this⊢
    try exact this
  .have l:st.tm 10=aI 2:=by rw[o,t];rfl
   have w2:qi.wrap (1)=1:=qg (by omega) (by omega);simp[go_sem,C,T,e9,l,hm,P,hq,J,w1,w2];refine Keep.loop (j+1+d-(j+1)) (by omega) ⟨j+1,rfl,by omega,by simp[go_sem,e1],by simp[go_sem,C],by simp[go_sem,T],by simp[go_sem],by simp[go_sem];omega,c0,c1,divN N r j % N,by simp[go_sem],fun i R=>?_⟩;cases i with
   |zero=>simp[p,t]
   |succ i =>
    have:=hc i (by omega);rw[show j+1+d-j+i=i+3 by omega]at this;rw[show j+1+d-(j+1)+(i+1)=i+3 by omega];simp at this⊢
    try exact this
 .have a5:j=k:=by omega
  subst a5;have hn:¬(j:Int)<=(j:Int)-1:=by omega
  have h3:(j:Int)<=3:=by omega
  simp[go_sem,e1,C,o,hm,hn,h3];have a0:=Zb N j r;have:=qfI (mu:=[.arr [aI c0,aI c1,aI c2]]) (b:=0) (cells:=[aI c0,aI c1,aI c2]) (ds:=digs N j r) rfl fun i R=>by
   have:=hc i (by omega);rw[Nat.sub_self,yf]at this;rw[show [aI c0,aI c1,aI c2]=[c0,c1,c2].map aI from rfl,zp,this];rfl
  rw[a0]at this;exact this
def fitB(sc:Sc)(ds g:List Int):Bool:=allN (fun i=>decide (vt sc (gI ds i)=gI g i)) g.length
theorem qfK(sc:Sc)(g:GSc sc)(ds j:List Int)(hl:ds.length=j.length)(a0:j.length<=3)(hd:∀ d,d∈ds->0<=d/\d<=1000):qe qc 230 [eSc sc,lI ds,lI j] (aB (fitB sc ds j)):=by
 refine qSV call230 func230 rfl ?_;simp[go_sem];refine qk.up j.length (fun k st=>st.tm 1=lI ds/\st.tm 2=lI j/\st.tm 3 = .ip [lI sc.atoms,aI sc.steps]/\st.tm 7=aI k/\∀ i,i<k->vt sc (gI ds i)=gI j i) ?_ ?_
 .simp [go_sem]
 rintro k st hk ⟨P,r,R,p,T⟩;by_cases l:k<j.length
 .have o:k<ds.length:=by omega
  have C:=hd ds[k] (qy o);obtain⟨d,I⟩:=Int.eq_ofNat_of_zero_le C.1;simp[go_sem,r,p,l];refine qm.intro (by kernel_rfl) ?_;simp[go_sem,P,R,p,o];have U:=qfH sc g d (by omega);rw[<-I]at U;refine qd.pure U (.cons (.hf (zA _)) (.cons (.hf (HF.sc _)) .nil)) ?_;have g1:gI ds k=ds[k]:=v6 o;have g2:gI j k=j[k]:=v6 l;by_cases t:vt sc ds[k]=j[k]
  .simp [go_sem,P,r,R,p,l,t]
   refine⟨qg (by omega) (by omega),fun i a1=>?_⟩;by_cases h:i=k
   .subst h;rw[g1,g2];exact t
   .exact T i (by omega)
  .have hf:fitB sc ds j=false:=qdA l (by rw[g1,g2];simpa using t)
   rw[hf];simp[go_sem,r,p,l,t];exact .hf _ (HF.sc _)
 .have J:k=j.length:=by omega
  subst J;have hf:fitB sc ds j=true:=UP.2 fun i h=>by simpa using T i h
  rw[hf];simp[go_sem,r,p];exact .hf _ (HF.sc _)
theorem Wt(n:Int)(i:0<n)(g:n<=20):∀(k:Nat) (r:Int),∀ d,d∈digs n k r->0<=d/\d<=1000
 | 0,_,d,h=>by simp[digs]at h
 |k+1,r,d,h=>by
  rw[digs,qG]at h;rcases h with h|h
  .exact Wt n i g k _ d h
  .rw [qN]at h;subst h
   have j:=Int.emod_nonneg r (show n≠0 by omega);have l:=Int.emod_lt_of_pos r i;omega
def jr(sc:Sc)(g:List Int)(r:Nat):List Int:=((qt r).filter fun k:Nat=>fitB sc (digs (sumI sc.atoms) g.length k) g).map fun k:Nat=>(k:Int)
theorem qfL(sc:Sc)(g:List Int)(r:Nat):jr sc g (r+1)=jr sc g r++(if fitB sc (digs (sumI sc.atoms) g.length r) g then [(r:Int)] else []):=by
 unfold jr;rw[List.range_succ,List.filter_append,zg];by_cases h:fitB sc (digs (sumI sc.atoms) g.length r) g=true<;>simp[h]
theorem Wu(sc:Sc)(g:List Int)(r:Nat):(jr sc g r).length<=r:=by
 have:=List.length_filter_le (fun k:Nat=>fitB sc (digs (sumI sc.atoms) g.length k) g) (qt r);rw[List.length_range]at this;rw[jr,zH];exact this
theorem Wv(sc:Sc)(g:List Int)(r:Nat):(jr sc g r).Pairwise (·<·):=by
 unfold jr;rw[List.pairwise_map];exact(List.pairwise_lt_range.filter _).imp fun h=>by omega
theorem qfM(sc:Sc)(g:List Int)(r:Nat):∀ x,x∈jr sc g r->0<=x/\x<r:=fun x i=>by
 obtain⟨k,j,rfl⟩:=qp.1 i;have:=yk.1 (y9.1 j).1;omega
def zU(sc:Sc)(g:List Int):List Int:=jr sc g (sumI sc.atoms ^ g.length).toNat
theorem pt(sc:Sc)(g:GSc sc)(hp:0<sumI sc.atoms)(i:List Int)(h1:1<=i.length)(h3:i.length<=3)(hs:∀ s,s∈i->0<=s/\s<sc.atoms.length):qe qc 155 [eSc sc,lI i] (eRel ⟨i.length,zU sc i⟩):=by
 have J:=g.sum sc.atoms.length;rw[q8]at J;have a1:=Za (sumI sc.atoms) J.1 J.2 i.length h3;obtain⟨R,hR⟩:=Int.eq_ofNat_of_zero_le a1.1;have a2:zU sc i=jr sc i R:=by rw[zU,hR];rfl
 refine qSV call155 func155 rfl ?_;have n1:¬(i.length:Int)<1:=by omega
 have n3:¬(3:Int)<(i.length:Int):=by omega
 simp[go_sem,n1,n3];refine qk.up i.length (fun k st=>st.tm 1=lI i/\st.tm 2 = .ip [lI sc.atoms,aI sc.steps]/\st.tm 4 = .ptr 0 0/\st.tm 5=aI i.length/\st.tm 6=aI k/\st.mu=[.arr [aI 0,.lst true []]]) ?_ ?_
 .simp [go_sem]
 rintro k st hk ⟨e1,I,e4,t,e6,hm⟩;by_cases o:k<i.length
 .have a4:=hs i[k] (qy o)
  have m1:¬i[k]<0:=by omega
  have m2:¬(sc.atoms.length:Int)<=i[k]:=by omega
  simp[go_sem,t,e6,hm,o];refine qm.intro (by kernel_rfl) ?_;simp[go_sem,e1,I,e4,t,e6,o,m1,m2];exact qg (by omega) (by omega)
 have T:k=i.length:=by omega
 subst T;simp[go_sem,t,e6,hm];refine qk.keep (fun m st=>∃ k P l,m=R-k/\k<=R/\st.tm 1=lI i/\st.tm 2 = .ip [lI sc.atoms,aI sc.steps]/\st.tm 4 = .ptr 0 0/\st.tm 5=aI i.length/\st.tm 7 = .ptr 1 0/\st.tm 8=aI (k:Nat) /\
  st.mu=[.arr [aI 0,.lst true []],.arr [aI i.length,P]]++l/\OwnF 2 ([.dead,.dead]++l) 1 P ((jr sc i k).map rI)) R ?_ ?_
 .exact ⟨0,.lst true [],[],by omega,by omega,by simp[go_sem,e1],by simp[go_sem,I],by simp[go_sem,e4],by simp[go_sem,t],by simp[go_sem],by simp[go_sem],by simp[go_sem],by simpa[jr] using OwnF.nil (by simp)⟩
 rintro m st ⟨k,P,l,rfl,hk,e1,I,e4,t,e7,e8,hm,ho⟩;have ho:=ho.low (low:=[.dead,.dead]) (low':=[.arr [aI 0,.lst true []],.arr [aI i.length,P]]) rfl;simp[go_sem,I,t,e8,hm];refine qd.pure (pn sc g i.length h3) (.cons (.hf (zA _)) (.cons (.hf (HF.sc _)) .nil)) ?_;rw[hR];by_cases o:k<R
 .simp [go_sem,I,t,e8,o]
  refine qd.pure (qfJ sc g hp i.length h3 k (by omega)) (.cons (.hf (zA _)) (.cons (.hf (HF.sc _)) (.cons (.hf (HF.sc _)) .nil))) ?_;simp[go_sem,e1,I];refine qd.pure (qfK sc g _ i (Zb _ _ _) h3 (Wt _ hp (by omega) _ _)) (.cons (.hf (zA _)) (.cons (.hf (zi _)) (.cons (.hf (zi _)) .nil))) ?_;have C:=qfL sc i k;have a5:=Wu sc i k;cases hb:fitB sc (digs (sumI sc.atoms) i.length k) i with
  |false =>
   rw[hb]at C;simp[go_sem,e8];refine Keep.loop (R-(k+1)) (by omega) ⟨k+1,P,l,rfl,by omega,by simp[go_sem,e1],by simp[go_sem,I],by simp[go_sem,e4],by simp[go_sem,t],by simp[go_sem,e7],?_,by simp[go_sem],?_⟩
   .simp [go_sem];exact qg (by omega) (by omega)
   .rw [C];simpa[go_sem] using ho.low (low':=[.dead,.dead]) rfl
  |true =>
   rw[hb]at C;simp[go_sem,e7,e8];refine qD.intsL (low:=[.arr [aI 0,.lst true []],.arr [aI i.length,P]]) (e:=3) (bt:=8) (z:=0) (xs:=jr sc i k) (ys:=[(k:Int)]) (by simp[go_sem]) (by simp[go_sem]) (by simp[go_sem]) (by omega) ho (by simp[qM]) (by simp;omega) ?_;intro a3 U a0;simp[go_sem,e7,e8,a0.cells,a0.one];refine Keep.loop (R-(k+1)) (by omega) ⟨k+1,a3,U,rfl,by omega,by simp[go_sem,e1],by simp[go_sem,I],by simp[go_sem,e4],by simp[go_sem,t],by simp[go_sem,e7],?_,by simp[go_sem],?_⟩
   .simp [go_sem];exact qg (by omega) (by omega)
   .rw [C]
    simpa[go_sem] using a0.low (low':=[.dead,.dead]) rfl
 .have T:k=R:=by omega
  subst T;simp[go_sem,e4,e7,ho.one];rw[a2];exact Rd.rel (r:=⟨i.length,jr sc i k⟩) (ho.low (low:=[.arr [aI 0,.lst true []],.arr [aI i.length,P]]) (low':=[.arr [aI i.length,P],.arr [aI i.length,P]]) rfl).rdI
end G5
namespace GM
end GM
namespace GP
open P1 E3 GB G5
def js(g:List Bool)(lo:Rl)(q:List Int×Nat)(t:Int):List Int×Nat:=
 if t∈lo.ts then (q.1++[t],q.2) else (q.1++(if g.getD q.2 false=true then [t] else []),q.2+1)
def insF(g:List Bool)(lo:Rl)(ts:List Int)(n:Nat):List Int×Nat:=ts.foldl (js g lo) ([],n)
theorem qfN(g:List Bool)(lo:Rl)(ts:List Int)(n k:Nat)(h:k<ts.length):insF g lo (ts.take (k+1)) n=js g lo (insF g lo (ts.take k) n) ts[k]:=by
 rw[jH h,insF,Qe];rfl
theorem Vf(g:List Bool)(lo:Rl):∀(ts:List Int) (q:List Int×Nat) (w:List Int),q.1.Sublist w->(ts.foldl (js g lo) q).1.Sublist (w++ts)
 | [],q,w,h=>by simpa using h
 |t :: ts,q,w,h=>by
  rw[List.foldl_cons,show w++t :: ts=(w++[t])++ts by simp];refine Vf g lo ts _ _ ?_;unfold js;split
  .exact h.append (List.Sublist.refl _)
  .split
   .exact h.append (List.Sublist.refl _)
   .exact h.append (List.nil_sublist _)
theorem Ww(g:List Bool)(lo:Rl):∀(ts:List Int) (q:List Int×Nat),(ts.foldl (js g lo) q).2<=q.2+ts.length
 | [],q=>by simp
 |t :: ts,q=>by
  rw[List.foldl_cons];have:=Ww g lo ts (js g lo q t);have i:(js g lo q t).2<=q.2+1:=by unfold js;split<;>simp
  simp only[zu];omega
def insB(g:List Bool)(q:List Rl×Nat)(b:Bd):List Rl×Nat:=(q.1++[⟨b.up.ar,(insF g b.lo b.up.ts q.2).1⟩],(insF g b.lo b.up.ts q.2).2)
def yz(g:List Bd)(i:List Bool):List Rl×Nat:=g.foldl (insB i) ([],0)
def zV(g:List Bd)(i:List Bool):List Rl:=(yz g i).1
theorem pu(g:List Bd)(i:List Bool)(k:Nat)(h:k<g.length):yz (g.take (k+1)) i=insB i (yz (g.take k) i) g[k]:=by
 rw[jH h,yz,Qe];rfl
theorem pv(g:List Bool)(M:Nat):∀(i:List Bd) (q:List Rl×Nat),(∀ b,b∈i->b.up.ts.length<=M)->(i.foldl (insB g) q).2<=q.2+i.length*M
 | [],q,_=>by simp
 |b :: i,q,h=>by
  rw[List.foldl_cons];have:=pv g M i (insB g q b) fun x j=>h x (qO _ j)
  have l:(insB g q b).2<=q.2+M:=zY (Ww g b.lo b.up.ts _) (by have:=h b (qU ..);simp only;omega);rw[zu,Nat.add_mul];omega
theorem Wx(i:List Bool):∀(g:List Bd) (q:List Rl×Nat),(g.foldl (insB i) q).1.map Rl.ar=q.1.map Rl.ar++g.map fun b=>b.up.ar
 | [],q=>by simp
 |b :: g,q=>by rw[List.foldl_cons,Wx i g];simp[insB]
theorem qfO(g:List Bd)(i:List Bool):(zV g i).map Rl.ar=g.map fun b=>b.up.ar:=by
 rw[zV,yz,Wx];simp
theorem w8(g:List Bd)(i:List Bool):(zV g i).length=g.length:=by
 rw[<-zH (f:=Rl.ar),qfO,zH]
def anyS(j:List Bool)(i:List Bd)(g:List (List Bool))(s:Nat):List Rl:=
 if s=0 then zV i (g.getD 0 []) else (zV i (g.getD s [])).mapIdx fun f r=>if j.getD f true=true then r else (zV i (g.getD 0 [])).getD f noR
def anyM(sc:Sc)(i:List Bool)(j:List Bd)(g:List (List Bool))(loop:Int):Md:=⟨sc,(qt sc.steps.toNat).map (anyS i j g),loop⟩
theorem pw(j:List Bool)(i:List Bd)(g:List (List Bool))(s:Nat):(anyS j i g s).length=i.length:=by
 unfold anyS;split
 .exact w8 ..
 .rw [List.length_mapIdx];exact w8 ..
def defB(ts:TS)(sc:Sc):List Bd:=ts.fields.map fun f=>⟨⟨f.sorts.length,[]⟩,⟨f.sorts.length,zU sc f.sorts⟩⟩
end GP
namespace GQ
open YF P1 E9 Q8
def yp(sc:Sc):Bool:=decide (sc.atoms.length<=4)&&(decide (1<=sc.steps)&&(decide (sc.steps<=4)&&(sc.atoms.all (fun a=>decide (1<=a)&&decide (a<=5))&&decide (sumI sc.atoms<=12))))
theorem qfP{sc:Sc}(h:yp sc=true):GSc sc:=by
 simp only[yp,qr,decide_eq_true_eq,qH]at h;exact⟨h.1,fun a g=>by have:=h.2.2.2.1 a g;omega⟩
theorem qfQ(sc:Sc):qe qc 231 [eSc sc] (aB (yp sc)):=by
 refine qSV call231 func231 rfl ?_;by_cases o:(4:Int)<sc.atoms.length
 case pos =>
  simp[go_sem,o,yp,show ¬sc.atoms.length<=4 by omega];exact .hf _ (HF.sc _)
 by_cases I:sc.steps<1
 case pos =>
  simp[go_sem,o,I,yp,show ¬ 1<=sc.steps by omega];exact .hf _ (HF.sc _)
 by_cases T:4<sc.steps
 case pos =>
  simp[go_sem,o,I,T,yp,show ¬sc.steps<=4 by omega];exact .hf _ (HF.sc _)
 simp[go_sem,o,I,T];refine qk.up sc.atoms.length (fun k st=>st.tm 1 = .ip [lI sc.atoms,aI sc.steps]/\st.tm 3=aI (sumI (sc.atoms.take k))/\st.tm 4=aI k/\st.mu=[]/\0<=sumI (sc.atoms.take k)/\sumI (sc.atoms.take k)<=5*k/\∀(i:Nat) (h:i<sc.atoms.length),i<k->1<=sc.atoms[i]/\sc.atoms[i]<=5) ?_ ?_
 .simp [go_sem,sumI]
 rintro k st hk ⟨p,J,r,t,s0,s1,U⟩;by_cases g:k<sc.atoms.length
 .by_cases hb:sc.atoms[k]<1\/5<sc.atoms[k]
  .have:sc.atoms.all (fun a=>decide (1<=a)&&decide (a<=5))=false:=J7 g (by simp;omega)
   have:yp sc=false:=by simp only[yp,this,Bool.and_false,Bool.false_and]
   rw[this];by_cases j:sc.atoms[k]<1
   .simp [go_sem,p,r,t,g,j]
    exact .hf _ (HF.sc _)
   .simp [go_sem,p,r,t,g,j,show 5<sc.atoms[k] by omega]
    exact .hf _ (HF.sc _)
  .have hs:=uG sc.atoms k g
   generalize hS:sumI (sc.atoms.take k)=S at *
   simp[go_sem,p,J,r,t,g,hs,show ¬sc.atoms[k]<1 by omega,show ¬ 5<sc.atoms[k] by omega];refine⟨qg (by omega) (by omega),qg (by omega) (by omega),by omega,by omega,fun i h C=>?_⟩;rcases Qg.1 C with P|P
   .exact U i h P
   .subst P;exact⟨by omega,by omega⟩
 .have R:k=sc.atoms.length:=by omega
  subst R;rw[q8]at J;have l:sc.atoms.all (fun a=>decide (1<=a)&&decide (a<=5))=true:=by
   rw[J6];intro i C;have:=U i C C;simp;omega
  simp[go_sem,p,J,r,t];simp only[yp,l,show sc.atoms.length<=4 by omega,show 1<=sc.steps by omega,show sc.steps<=4 by omega];simp;exact .hf _ (HF.sc _)
theorem qfR(ts:TS)(sc:Sc):qe qc 156 [eTS ts,eSc sc] (aB (decide (ts.sorts.length=sc.atoms.length)&&yp sc)):=by
 refine qSV call156 func156 rfl ?_;by_cases h:ts.sorts.length=sc.atoms.length
 .simp [go_sem,h]
  refine qd.pure (qfQ sc) (.cons (.hf (zA sc)) .nil) ?_;simp[go_sem];exact .hf _ (HF.sc _)
 .simp [go_sem,h]
  exact .hf _ (HF.sc _)
def yQ(ts:TS)(sc:Sc):Bool:=decide (1<=ts.sorts.length)&&(decide (ts.sorts.length<=4)&&(decide (ts.fields.length<=6)&&(decide (sc.atoms.length<=4)&&(ts.fields.all (fldB ts.sorts.length)&&(decide (ts.sorts.length=sc.atoms.length)&&yp sc)))))
theorem qfS(ts:TS)(sc:Sc):qe qc 74 [eTS ts,eSc sc] (aB (yQ ts sc)):=by
 refine qSV call74 func74 rfl ?_;by_cases P:ts.sorts.length=0
 case pos =>
  have hf:yQ ts sc=false:=by simp[yQ,show ¬ 1<=ts.sorts.length by omega]
  rw[hf];simp[go_sem,P];exact .hf _ (HF.sc _)
 by_cases U:(4:Int)<ts.sorts.length
 case pos =>
  have hf:yQ ts sc=false:=by simp[yQ,show ¬ts.sorts.length<=4 by omega]
  rw[hf];simp[go_sem,P,U];exact .hf _ (HF.sc _)
 by_cases h2:(6:Int)<ts.fields.length
 case pos =>
  have hf:yQ ts sc=false:=by simp[yQ,show ¬ts.fields.length<=6 by omega]
  rw[hf];simp[go_sem,P,U,h2];exact .hf _ (HF.sc _)
 by_cases h3:(4:Int)<sc.atoms.length
 case pos =>
  have hf:yQ ts sc=false:=by simp[yQ,show ¬sc.atoms.length<=4 by omega]
  rw[hf];simp[go_sem,P,U,h2,h3];exact .hf _ (HF.sc _)
 simp[go_sem,P,U,h2,h3];refine qk.upK ts.fields.length (fun k st=>st.tm 2 = .ip (cTS ts)/\st.tm 3 = .ip [lI sc.atoms,aI sc.steps]/\st.tm 5=aI k/\∀(j:Nat) (h:j<ts.fields.length),j<k->fldB ts.sorts.length ts.fields[j]=true) ?_ ?_
 .exact ⟨by simp[go_sem],by simp[go_sem],by simp[go_sem],fun j h hj=>absurd hj (by omega)⟩
 rintro k st hk ⟨o,I,r,hI⟩;by_cases p:k<ts.fields.length
 .have w1:qi.wrap ((k:Int)+1)=(k:Int)+1:=qg (by omega) (by omega)
  have l:fldB ts.sorts.length ts.fields[k]=false->yQ ts sc=false:=fun hb=>by
   simp only[yQ,J7 p hb,Bool.and_false,Bool.false_and]
  by_cases l1:(ts.fields[k].sorts.length:Int)<1
  .rw [l (by simp[fldB,show ¬ 1<=ts.fields[k].sorts.length by omega])]
   simp[go_sem,o,r,p,l1];exact .hf _ (HF.sc _)
  by_cases l3:(3:Int)<ts.fields[k].sorts.length
  .rw [l (by simp[fldB,show ¬ts.fields[k].sorts.length<=3 by omega])]
   simp[go_sem,o,r,p,l1,l3];exact .hf _ (HF.sc _)
  simp[go_sem,o,r,p,l1,l3];refine qk.upK ts.fields[k].sorts.length (fun j st=>st.tm 2 = .ip (cTS ts)/\st.tm 3 = .ip [lI sc.atoms,aI sc.steps]/\st.tm 5=aI k/\st.tm 6=lI ts.fields[k].sorts/\st.tm 7=aI j/\∀(i:Nat) (h:i<ts.fields[k].sorts.length),i<j->0<=ts.fields[k].sorts[i]/\ts.fields[k].sorts[i]<ts.sorts.length) ?_ ?_
  .exact ⟨by simp[go_sem,o],by simp[go_sem,I],by simp[go_sem,r],by simp[go_sem],by simp[go_sem],fun j h hj=>absurd hj (by omega)⟩
  clear o I r st;rintro j st hj ⟨o,I,r,J,R,hJ⟩;by_cases g:j<ts.fields[k].sorts.length
  .have w2:qi.wrap ((j:Int)+1)=(j:Int)+1:=qg (by omega) (by omega)
   simp[go_sem,J,R,g];refine qm.intro (by kernel_rfl) ?_;by_cases q1:ts.fields[k].sorts[j]<0
   .rw [l (by rw[fldB,J7 g (by simp;omega),Bool.and_false])]
    simp[go_sem,J,R,g,q1];exact .hf _ (HF.sc _)
   by_cases q2:(ts.sorts.length:Int)<=ts.fields[k].sorts[j]
   .rw [l (by rw[fldB,J7 g (by simp;omega),Bool.and_false])]
    simp[go_sem,o,J,R,g,q1,q2];exact .hf _ (HF.sc _)
   simp[go_sem,o,J,R,g,q1,q2,w2]
   try refine⟨g,Keep.mk' ?_⟩
   try refine Keep.mk' ?_
   refine⟨by simp[go_sem,o],by simp[go_sem,I],by simp[go_sem,r],by simp[go_sem,J],by simp[go_sem],fun i h hi=>?_⟩;by_cases t:i=j
   .subst t;exact⟨by omega,by omega⟩
   .exact hJ i h (by omega)
  .have C:j=ts.fields[k].sorts.length:=by omega
   simp[go_sem,r,J,R,C,w1]
   try refine⟨p,Keep.mk' ?_⟩
   try refine Keep.mk' ?_
   refine⟨by simp[go_sem,o],by simp[go_sem,I],by simp[go_sem],fun i h hi=>?_⟩;by_cases t:i=k
   .subst t
    have:ts.fields[i].sorts.all (fun x=>decide (0<=x)&&decide (x<ts.sorts.length))=true:=J6.2 fun a ha=>by
     have:=hJ a ha (by omega);simp;omega
    simp only[fldB,this,Bool.and_true,qr,decide_eq_true_eq];omega
   .exact hI i h (by omega)
 .have C:k=ts.fields.length:=by omega
  have T:ts.fields.all (fldB ts.sorts.length)=true:=J6.2 fun i h=>hI i h (by omega)
  simp[go_sem,o,I,r,C];refine qd.pure (qfR ts sc) (.cons (.hf (zq ts)) (.cons (.hf (zA sc)) .nil)) ?_;simp[go_sem];have hf:yQ ts sc=(decide (ts.sorts.length=sc.atoms.length)&&yp sc):=by
   simp only[yQ,T,show 1<=ts.sorts.length by omega,show ts.sorts.length<=4 by omega,show ts.fields.length<=6 by omega,show sc.atoms.length<=4 by omega];simp
  rw[hf];exact .hf _ (HF.sc _)
end GQ
end Go.Proofs.YtpagnklaanbmbaaGreatDoor
