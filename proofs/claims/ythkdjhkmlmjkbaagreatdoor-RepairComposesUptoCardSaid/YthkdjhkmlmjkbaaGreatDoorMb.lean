/-
  Own library, part 2: an abstract reading of values and a calculus over it; contracts of functions; plain lemmas.
-/
import Derived.TacticsIn
import Derived.Deep.LoopGhost
import Derived.Scope
import Derived.Sort.LoopGhostIn
import Derived.Test.YthkdjhkmlmjkbaaGreatDoorMa
set_option linter.unusedVariables false
set_option linter.unusedSimpArgs false
set_option maxRecDepth 100000
open Go renaming Program->qf,World->j2,TypeId->j1,Operand->uk,undef->vd,Value->j3,Oper->wx,FuncId->us
open Bool renaming and_eq_true->qi,or_eq_true->vL
open Option.some renaming injEq->qj
open List renaming range->qm,getElem?_eq_some_iff->qn,mem_cons->qp,getElem?_eq_getElem->qq,mem_map->qs,all_eq_true->qu,mem_cons_of_mem->qJ,mem_append->qR,getD_eq_getElem?_getD->qS,getElem?_append_left->qT,mem_singleton->qV,mem_cons_self->q8,not_mem_nil->zb,append_nil->zA,ext_getElem?->zT,mem_range->zY,getElem?_set_self->yC,mem_append_left->yD,cons_append->yS,eq_nil_of_length_eq_zero->jt,getElem?_toArray->ju,mem_filter->jL,getElem?_cons_succ->vh,nodup_cons->vj,nil_append->Zs,nodup_append->Zt,mem_iff_getElem->Jd
open Nat renaming le_refl->qr,lt_of_lt_of_le->UN
open Go.Sem renaming run_bind->qz,run_pure->qW
open Go.Result renaming andThen_ok->qA
open Array renaming getD_eq_getD_getElem?->qB,getElem?_eq_some_iff->zw
open Option renaming map_some->qU
open Classical renaming byContradiction->yR
open List.Nodup renaming length_le_of_subset->jv
open Go.World renaming putObj_heap_other->jQ
open List.cons renaming injEq->Jh
namespace Go.Ev
open Go Go.RowKit
section
variable {next:Act->j2->Prop}{h:Array Obj}{Q:Exit->Act->j2->Prop}{G:Gh}{P:qf}{w:j2}
@[go_sem] def Qc:AV->Option AV
 | .ip g=>some (.ip g)
 | .ptr b o=>some (.ptr b o)
 | .ifc t x=>some (.ifc t x)
 | .fn (.func f) a b=>some (.fn (.func f) a b)
 |_=>none
@[go_sem] def ZF(i:Nat):AV->Option AV
 | .tup g=>g[i]?
 |_=>none
def Qd(P:qf)(t:j1):Bool:=match P.underlying t with|some (.interface _)=>false|some _=>true|none=>false
@[go_sem] def ZG(P:qf)(t:j1)(ok:Bool)(x:AV):Option AV:=
 if Qd P t=true then
  match x with
  | .ifc u v=>if u=t then some (if ok then .tup [v,.sc (.bool true)] else v) else if ok then (qv P t).map fun z => .tup [z,.sc (.bool false)] else none
  | .sc .nilIface=>if ok then (qv P t).map fun z => .tup [z,.sc (.bool false)] else none
  |_=>none
 else none
@[go_sem] def JI(P:qf)(t:j1)(x:AV):Prop:=
 match x with
 | .lst _ J=>∃ e j g,qy P t=some (e,j,g)/\ya j J
 |_=>True
def yG(P:qf)(t:j1):Bool:=match qv P t with|some z=>z.cells.all AV.one|none=>false
def evs(ev:uk->AV)(l:List uk):List AV:=l.map ev
def Qe(P:qf)(mu:Mu)(b:Builtin)(g:Array j1)(args:List AV)(K:AV->Mu->Prop):Prop:=∃ z m,ExtB P mu b g args z m/\K z m
def qt(P:qf)(pl:Pol)(det:Bool)(g:Option Tmp)(op:Op)(ev:uk->AV)(mu:Mu)(K C:AV->Mu->Prop):Prop:=
 match op with
 | .move x | .assign x=>K (ev x) mu
 | .pick c a b=>∃ t,ev c = .sc (.bool t)/\K (if t then ev a else ev b) mu
 | .alloc e=>OptK (qv P e) fun z=>z.cells.all AV.one=true/\K (.ptr mu.length 0) (mu++[.arr z.cells])
 | .box e x=>(ev x).cells.all AV.one=true/\(if (g.any pl.mt.contains)=true then K (.ptr mu.length 0) (mu++[.arr (ev x).cells]) else K (.ip (ev x).cells) mu)
 | .build t o=>yG P t=true/\OptK (wW P t (o.toList.map fun p=>(p.1,ev p.2))) fun z=>K z mu
 | .buildSlice t n o=>OptK (wY P t n (o.toList.map fun p=>(p.1,ev p.2))) fun z=>K z mu
 | .load t a=>OptK (jR P mu t (ev a)) fun z=>K z mu
 | .store t a x=>OptK (wP P mu t (ev a) (ev x)) fun m=>K (.sc vd) m
 | .nilCheck x=>OptK (Qc (ev x)) fun z=>K z mu
 | .binOp op t x y _=>if jT y=true then yx P det op t (ev x) (fun z=>K z mu) else OptK (vp P op t (ev x) (ev y)) fun z=>K z mu
 | .unOp op _ x=>OptK (aUn op (ev x)) fun z=>K z mu
 | .convert src g x=>(P.underlying src).isSome=true/\OptK (Zx P src g (ev x)) fun z=>K z mu
 | .makeInterface t x=>Qd P t=true/\K (.ifc t (ev x)) mu
 | .makeFunc f first j=>K (.fn f (evs ev first.toList) (evs ev j.toList)) mu
 | .makeSlice t l c=>OptK (uT P mu t (ev l) (ev c)) fun z=>K z.1 z.2
 | .slice t x I J R=>JI P t (ev x)/\OptK (wU P t (ev x) (I.map ev) (J.map ev) (R.map ev)) fun z=>K z mu
 | .fieldAddr s x f=>OptK (wQ P s f (ev x)) fun z=>K z mu
 | .field t x f=>OptK (wS P t f (ev x)) fun z=>K z mu
 | .indexAddr t x i=>OptK (wR P t (ev x) (ev i)) fun z=>K z mu
 | .index t x i=>OptK (wT P t (ev x) (ev i)) fun z=>K z mu
 | .extract t i=>OptK (ZF i (ev t)) fun z=>K z mu
 | .typeAssert x _ t ok=>OptK (ZG P t ok (ev x)) fun z=>K z mu
 | .makeMap _ r=>r=none/\K (.mp mu.length) (mu++[.mp []])
 | .lookup t m k ok=>OptK (z5 P mu t (ev m) (ev k) ok) fun z=>K z mu
 | .mapUpdate t m k v=>OptK (uh P mu t (ev m) (ev k) (ev v)) fun m=>K (.sc vd) m
 | .insert t m k v=>OptK (uh P mu t (ev m) (ev k) (ev v)) fun m=>K (.sc vd) m
 | .mapEntry t m k=>OptK (ui P mu t (ev m) (ev k)) fun z=>K z.1 z.2
 | .entryStore _ m s v=>OptK (ZD mu (ev m) (ev s) (ev v)) fun m=>K (.sc vd) m
 | .range t m=>OptK (ZE P mu t (ev m)) fun z=>K z.1 z.2
 | .next i str=>det=false/\str=false/\JD mu (ev i) K
 | .entry i=>OptK (uj mu (ev i)) fun z=>K z mu
 | .panic x=>det=false/\∃ t v,ev x = .ifc t v/\C (.ifc t v) mu
 | .call c=>match c.callee with
  | .value f=>qc P det mu (ev f) (evs ev c.args.toList) K C
  | .builtin b=>match b with
   | .append=>∃ s x,evs ev c.args.toList=[s,x]/\qI P mu c.argTypes s x K
   | .copy=>Qe P mu .copy c.argTypes (evs ev c.args.toList) K
   | .delete=>Qe P mu .delete c.argTypes (evs ev c.args.toList) K
   | .clear=>Qe P mu .clear c.argTypes (evs ev c.args.toList) K
   |b=>OptK (jU P mu b c.argTypes (evs ev c.args.toList)) fun z=>K z mu
  | .invoke _ _=>False
 |_=>False
theorem gM{o:wx}{a:Act}{s:Sem j3}{u:j3}{w':j2}(g:s.run P w = .ok u w')(i:next (a.put o.dst u) w') :
  o.upon P a next Q ((do pure (Next.value (<-s)):Sem Next).run P w):=by
 grind [qz,qA,qW,Oper.upon]
theorem ZH{o:wx}{a:Act}{s:Sem Unit}{w':j2}(g:s.run P w = .ok () w')(i:next (a.put o.dst vd) w') :
  o.upon P a next Q ((do s;pure Next.skip:Sem Next).run P w):=by
 grind [qz,qA,qW,Oper.upon]
theorem vq{ev:uk->AV}{g:uk->j3}(j:∀ x,VRel G h (ev x) (g x))(l:Array uk):zj G h (evs ev l.toList) (l.map g):=by
 refine⟨by simp[evs],fun k x i=>?_⟩;simp only[evs,List.getElem?_map,Option.map_eq_some_iff,Array.getElem?_toList]at i;obtain⟨y,o,rfl⟩:=i;simp_all
theorem Wu{ev:uk->AV}{i:uk->j3}(g:∀ x,VRel G h (ev x) (i x))(l:Array (Nat×uk)) :
  wV G h (l.toList.map fun p=>(p.1,ev p.2)) ((l.map fun (x:Nat×uk)=>(x.1,i x.2)).toList):=by
 rw[Array.toList_map];induction l.toList with
 |nil=>trivial
 |cons p o j=>exact⟨rfl,g _,j⟩
theorem s2{xs ys zs:List AV}{a b c:Array j3}(g:zj G h xs a)(i:zj G h ys b)(j:zj G h zs c):zj G h (xs++ys++zs) (a++b++c):=by
 obtain⟨l,g1⟩:=g;obtain⟨o,r⟩:=i;obtain⟨p,t⟩:=j;refine⟨by simp[l,o,p],fun k x C=>?_⟩;simp only[qB]at *
 by_cases I:k<xs.length
 .grind
 grind
theorem Wv{mu:Mu}(s:Sim G mu w.heap){f:AV}{args:List AV}{v:AV}{fv:j3}{vs:Array j3}(rf:VRel G w.heap f fv)(ra:zj G w.heap args vs)
  (h:Qb P mu f args v):∃ g first caps,fv = .func (.func g) first caps/\zO P g/\Calls P g (first++vs++caps) w fun e w'=>∃ G' u,e = .returned u/\Stp G mu w G' mu w'/\VRel G' w'.heap v u:=by
 have step:∀(T l:Nat->Prop) (w':j2),(∀ b,G.imm b->T b)->(∀ b,l b->b<w'.heap.size/\(T b\/w.heap.size<=b))->w6 w.heap.size w w'->(∀ b,T b->G.imm b\/Live G mu b) ->
   Stp G mu w ⟨fun b=>G.imm b\/(l b/\w.heap.size<=b),G.blk⟩ mu w':=by
  intro T l w' h1 U r h3;have a1:G.le ⟨fun b=>G.imm b\/(l b/\w.heap.size<=b),G.blk⟩:=⟨fun b h => .inl h,fun _ _ h=>h⟩;have he:Ext G w.heap w'.heap:=⟨r.size,fun b p=>r.block b (s.imm b p)⟩;have key:∀ b,Live G mu b->w'.heap[b]?=w.heap[b]?:=fun b hl=>r.block b (s.livesize hl)
  refine⟨a1,⟨s.len,?_,?_,?_,s.inj,s.tab.mono a1.imm (fun b p=>r.block b (s.imm b p))⟩,fun b a2 _=>r.block b a2,r.size,fun b h => .inl h,fun b h=>h.elim .inl (fun e => .inr (.inr e.2)),r.tape,r.os,r.output,r.drawn⟩
  .intro b p
   rcases p with p|p
   .exact UN (s.imm b p) r.size
   grind
  .intro i c a0 I hc hd hk
   obtain⟨o',g1,g2⟩:=s.obj i c a0 I hc hd hk;exact⟨o',by rw[key a0 ⟨i,_,I,hc,hd,hk⟩];exact g1,g2.mono a1 he⟩
  .intro i c a0 I hc hd hk p
   rcases p with p|p
   .exact s.live i c a0 I hc hd hk p
   .have:=s.livesize ⟨i,c,I,hc,hd,hk⟩;omega
 rcases h with h|⟨g,fi,ca,j,rfl,⟨J,hs⟩,h⟩
 case inr =>
  cases rf with
  |fn _ _ _ t C hn hm hv hw =>
  refine⟨g,t,C,rfl,J,?_⟩;have o:=s2 (G:=G) (h:=w.heap) ⟨hn,hv⟩ ra ⟨hm,hw⟩;obtain⟨hl,hg⟩:=h.get;have R:zj ⟨fun b=>G.imm b\/Live G mu b,[]⟩ w.heap j (t++vs++C):=by
   refine⟨by rw[o.1,hl],fun k y hy=>?_⟩;have hk:k<j.length:=(qn.1 hy).1;have hx:(fi++args++ca)[k]?=some ((fi++args++ca)[k]' zOm):=by rw[qq]
   exact(hg k _ y hx hy).sound s (o.2 k _ hx)
  refine(hs _ w _ (s.all) R).mono fun e w' ⟨nw,u,he,U,r,hr⟩=>?_
  have st:=step (fun b=>G.imm b\/Live G mu b) nw w' (fun b h => .inl h) (fun b h=>⟨(U b h).2,.inr (U b h).1⟩) r (fun b h=>h);refine⟨_,u,he,st,hr.le (G':=⟨fun b=>G.imm b\/(nw b/\w.heap.size<=b),G.blk⟩) ⟨fun b p => .inr ⟨p,(U b p).1⟩,fun i x h=>by simp at h⟩⟩
 obtain⟨g,fi,ca,j,rfl,⟨J,hs⟩,h⟩:=h;cases rf with
 |fn _ _ _ t C hn hm hv hw =>
 refine⟨g,t,C,rfl,J,?_⟩;have o:=s2 (G:=G) (h:=w.heap) ⟨hn,hv⟩ ra ⟨hm,hw⟩;rcases h with h|⟨h,a3⟩
 .obtain ⟨hl,hg⟩:=h.get
  have R:zj ⟨G.imm,[]⟩ w.heap j (t++vs++C):=by
   refine⟨by rw[o.1,hl],fun k y hy=>?_⟩;have hk:k<j.length:=(qn.1 hy).1;have hx:(fi++args++ca)[k]?=some ((fi++args++ca)[k]' zOm):=by rw[qq]
   exact hg k _ y hx hy G w.heap _ (o.2 k _ hx)
  refine(hs G.imm w _ s.bare R).mono fun e w' ⟨l,u,he,h1,U,r,hr⟩=>?_
  have st:=step G.imm l w' (fun b h=>h) U r (fun b h => .inl h);refine⟨_,u,he,st,?_⟩;refine hr.le ⟨fun b p=>?_,fun i x h=>by simp at h⟩;rcases (U b p).2 with h|h
  .exact .inl h
  grind
 .obtain ⟨hl,hg⟩:=h.get
  have R:zj ⟨fun b=>G.imm b\/Live G mu b,[]⟩ w.heap j (t++vs++C):=by
   refine⟨by rw[o.1,hl],fun k y hy=>?_⟩;have hk:k<j.length:=(qn.1 hy).1;have hx:(fi++args++ca)[k]?=some ((fi++args++ca)[k]' zOm):=by rw[qq]
   exact(hg k _ y hx hy).sound s (o.2 k _ hx)
  refine(hs _ w _ (s.all) R).mono fun e w' ⟨l,u,he,h1,U,r,hr⟩=>?_
  have st:=step _ l w' (fun b h => .inl h) U r (fun b h=>h);exact⟨_,u,he,st,a3 _ _ _ _ _ hr⟩
end
end Go.Ev
namespace Go.Ev
open Go Go.RowKit
section
variable {K Kp:AV->Mu->Prop}{a:Act}{G:Gh}{o:wx}{P:qf}{w:j2}
theorem gN{h:Array Obj}{x z:AV}{v:j3}(r:VRel G h x v)(e:Qc x=some z) :
  z=x/\((∃ a,v = .pointer (some a))\/(∃ t u,v = .iface t u)\/(∃ f a b,v = .func (.func f) a b)):=by
 unfold Qc at e;split at e<;>simp only[qj,reduceCtorEq]at e<;>subst e
 .cases r;simp
 .cases r;simp
 .cases r;simp
 .cases r;simp
theorem Ww{t:j1}(h:Qd P t=true):∃ d,P.underlying t=some d/\∀ g,d ≠ .interface g:=by
 grind [Qd,absurd]
theorem gO{U t:j1}{ok:Bool}{x z:AV}{v:j3}(r:VRel G w.heap x v)(h:ZG P t ok x=some z) :
  ∃ u,(Instr.typeAssert v U t ok).run P w = .ok u w/\VRel G w.heap z u:=by
 unfold ZG at h;have tup:∀(y:AV) (u:j3) (b:Bool),VRel G w.heap y u->VRel G w.heap (.tup [y,.sc (.bool b)]) (.tuple #[u,.bool b]):=by
  intro y u b ry;refine .tup _ _ rfl (fun k c C=>?_);cases k with
  |zero=>simp_all
  |succ k=>cases k with
   |zero=>simp at C;subst C;exact .sc _ rfl
   |succ k=>simp at C
 split at h
 .rename_i hc
  obtain⟨d,o,p⟩:=Ww hc;have zero:∀ z,qv P t=some z->∃ g,(zeroValue t).run P w = .ok g w/\VRel G w.heap z g:=by
   intro z i;obtain⟨g,l,rfl⟩:=ue i w;exact⟨g,l,.ofV g⟩
  split at h
  .rename_i ut uv
   cases r with
   |ifc _ _ v T =>
   split at h
   .rename_i I
    subst I;simp only[qj]at h;subst h;cases ok
    .refine ⟨v,?_,T⟩
     simp only[Instr.typeAssert,qz,run_underlying o,qA];cases d<;>first | (exact absurd rfl (p _))|simp
    .refine ⟨.tuple #[v,.bool true],?_,tup _ _ _ T⟩
     simp only[Instr.typeAssert,qz,run_underlying o,qA];cases d<;>first | (exact absurd rfl (p _))|simp
   .rename_i I
    split at h
    .rename_i j
     subst j;cases i:qv P t with
     |none=>simp[i]at h
     |some J =>
      simp only[i,qU,qj]at h;subst h;obtain⟨g,l,R⟩:=zero J i;refine⟨.tuple #[g,.bool false],?_,tup _ _ _ R⟩;simp only[Instr.typeAssert,qz,run_underlying o,qA];cases d<;>first | (exact absurd rfl (p _))|simp[I,l]
    grind
  .cases r
   split at h
   .rename_i j
    subst j;cases i:qv P t with
    |none=>simp[i]at h
    |some J =>
     simp only[i,qU,qj]at h;subst h;obtain⟨g,l,R⟩:=zero J i;refine⟨.tuple #[g,.bool false],?_,tup _ _ _ R⟩;simp only[Instr.typeAssert,qz,run_underlying o,qA];cases d<;>first | (exact absurd rfl (p _))|simp[l]
   grind
  grind
 grind
def Wx(P:qf)(op:Op)(ev:uk->AV)(mu:Mu)(K:AV->Mu->Prop):Prop:=
 ∃ f args j i R,op = .call { callee := .value f,args,argTypes:=j }/\ev f = .yl i/\vR P i (evs ev args.toList) mu R/\∀ b m,R b m->K (.sc (.bool b)) m
theorem gP{pl:Pol}{det:Bool}{mu:Mu}{ev:uk->AV}(s:Sim G mu w.heap)(j:∀ x,VRel G w.heap (ev x) (a.eval x))
  (h:qt P pl det o.dst o.op ev mu K Kp) (hy:¬Wx P o.op ev mu K) {next:Act->j2->Prop} {Q:Exit->Act->j2->Prop}
  (hK:∀ v p G' w' u,K v p->Stp G mu w G' p w'->VRel G' w'.heap v u->next (a.put o.dst u) w')
  (a5:∀ v p G' w' u,Kp v p->Stp G mu w G' p w'->VRel G' w'.heap v u->Q (.panic [{ v:=u,recovered:=false }]) a w'):o.wp P a w next Q:=by
 obtain⟨dst,op,ty,pos,after,guard⟩:=o;simp only at h hK a5 hy;have U:∀{c:Sem j3} {x:AV} {p:Mu},Good P G mu w c x p->K x p->∀{o':wx},o'.dst=dst->o'.upon P a next Q ((do pure (Next.value (<-c)):Sem Next).run P w):=by
  intro c x p ⟨u,w',G',h1,h2,h3⟩ C o' ho
  grind [gM]
 have quiet:∀{c:Sem j3} {x:AV} {u:j3},c.run P w = .ok u w->VRel G w.heap x u->K x mu->∀{o':wx},o'.dst=dst->o'.upon P a next Q ((do pure (Next.value (<-c)):Sem Next).run P w):=
  fun h1 h2 C _ ho=>U (sX s h1 h2) C ho
 unfold Oper.wp;cases op<;>simp only[qt]at h<;>try (exact h.elim)
 case move x=>exact hK _ _ _ _ _ h (Stp.refl s) (j x)
 case assign x=>exact hK _ _ _ _ _ h (Stp.refl s) (j x)
 case pick c x y =>
  obtain⟨t,hc,C⟩:=h;have rc:=j c;rw[hc]at rc;have ec:a.eval c = .bool t:=by generalize a.eval c=cv at rc;cases rc;rfl
  simp only[execOp,ec,asBool];refine hK _ _ _ _ _ C (Stp.refl s) ?_;cases t
  .exact j y
  grind
 case alloc e =>
  obtain⟨z,I,h1,C⟩:=h;obtain⟨zv,ab,rfl⟩:=ue I w;obtain⟨G',g1,T,g3⟩:=U5 (P:=P) s e (VRel.ofV zv) h1;refine U ⟨_,_,G',?_,T,g3⟩ C rfl;simp_all[Instr.alloc,qz,qA,qW]
 case box e x =>
  obtain⟨h1,C⟩:=h;split at C
  .obtain ⟨G',g1,T,g3⟩:=U5 (P:=P) s e (j x) h1
   refine U ⟨_,_,G',?_,T,g3⟩ C rfl
   grind [Instr.box,qz,qA,qW]
  .obtain ⟨G',g1,T,g3⟩:=pN (P:=P) s e (j x) h1
   refine U ⟨_,_,G',?_,T,g3⟩ C rfl
   grind [Instr.box,qz,qA,qW]
 case build t ps =>
  obtain⟨h1,z,I,C⟩:=h;obtain⟨u,g1,T⟩:=pM (P:=P) (w:=w) (Wu j ps) (fun y hy=>by grind [yG]) I;exact quiet g1 T C rfl
 case buildSlice t n ps =>
  obtain⟨z,I,C⟩:=h;exact U (pQ s (Wu j ps) I) C rfl
 case load t x =>
  obtain⟨z,I,C⟩:=h;obtain⟨ad,u,g0,g1,T⟩:=UU (P:=P) s (j x) I;refine quiet ?_ T C rfl
  grind [Instr.loadAt,Instr.sureAddr,qz,qW,qA]
 case store t x y =>
  obtain⟨m,hm,C⟩:=h;obtain⟨ad,w',g0,g1,T⟩:=pt (P:=P) s (j x) (j y) hm;refine ZH (w':=w') ?_ ?_
  .grind [Instr.storeAt,Instr.sureAddr,qz,qW,qA]
  .exact hK _ _ _ _ _ C T (.sc _ rfl)
 case nilCheck x =>
  obtain⟨z,I,C⟩:=h;obtain⟨rfl,hv⟩:=gN (j x) I;have:(execOp a.eval { dst,op := .nilCheck x,type:=ty,pos,after,guard }).run P w = .ok (.value (a.eval x)) w:=by
   rcases hv with ⟨ad,hv⟩|⟨t,u,hv⟩|⟨f,b,c,hv⟩<;>simp[execOp,hv]
  rw[this];exact hK _ _ _ _ _ C (Stp.refl s) (j x)
 case binOp op t x y yt =>
  split at h
  .rename_i hy
   obtain rfl:=gJ hy;obtain⟨z,r,C,g1,T⟩:=yx.sound (ox:=x) (oy := .const (.slice none 0 0)) (j x) h;exact quiet g1 T C rfl
  obtain⟨z,I,C⟩:=h;obtain⟨u,g1,T⟩:=gG (P:=P) (ox:=x) (oy:=y) (j x) (j y) I;exact quiet g1 T C rfl
 case unOp op t x =>
  obtain⟨z,I,C⟩:=h;obtain⟨u,g1,T⟩:=pC (P:=P) (j x) I;exact quiet g1 T C rfl
 case convert src ae x =>
  obtain⟨h1,z,I,C⟩:=h;obtain⟨u,g1,T⟩:=pD (P:=P) (src:=src) (j x) (Option.isSome_iff_exists.1 h1) I;exact quiet g1 T C rfl
 case makeInterface t x =>
  obtain⟨h1,C⟩:=h;obtain⟨d,hu,hd⟩:=Ww h1;refine quiet (u := .iface t (a.eval x)) ?_ (.ifc t _ _ (j x)) C rfl;simp only[Instr.makeInterface,qz,run_underlying hu,qA];cases d<;>first | (exact absurd rfl (hd _))|simp
 case makeFunc f first a1 =>
  refine quiet (u := .func f (first.map a.eval) (a1.map a.eval)) rfl ?_ h rfl;have r1:=vq j first;have r2:=vq j a1;exact .fn f _ _ _ _ r1.1 r2.1 r1.2 r2.2
 case makeSlice t l c =>
  obtain⟨z,I,C⟩:=h;exact U (pR s (j l) (j c) I) C rfl
 case slice t x lo hi mx =>
  obtain⟨hr,z,I,C⟩:=h;obtain⟨u,g1,T⟩:=pI (P:=P) (w:=w) (vlo:=lo.map a.eval) (vhi:=hi.map a.eval) (vmx:=mx.map a.eval) (j x)
   (fun y hy=>by cases lo with|none=>simp at hy|some q=>simp at hy;subst hy;grind) (fun h=>by simp_all)
   (fun y hy=>by cases hi with|none=>simp at hy|some q=>simp at hy;subst hy;grind) (fun h=>by simp_all)
   (fun y hy=>by cases mx with|none=>simp at hy|some q=>simp at hy;subst hy;grind) (fun h=>by simp_all)
   (fun full J e=>by rw[e]at hr;exact hr) I
  exact quiet g1 T C rfl
 case fieldAddr t x f =>
  obtain⟨z,I,C⟩:=h;obtain⟨u,g1,T⟩:=pE (P:=P) (j x) I;exact quiet g1 T C rfl
 case field t x f =>
  obtain⟨z,I,C⟩:=h;obtain⟨u,g1,T⟩:=pG (P:=P) (j x) I;exact quiet g1 T C rfl
 case indexAddr t x i =>
  obtain⟨z,I,C⟩:=h;obtain⟨u,g1,T⟩:=pF (P:=P) (j x) (j i) I;exact quiet g1 T C rfl
 case index t x i =>
  obtain⟨z,I,C⟩:=h;obtain⟨u,g1,T⟩:=pH (P:=P) (j x) (j i) I;exact quiet g1 T C rfl
 case extract t i =>
  obtain⟨z,I,C⟩:=h;have rt:=j t;unfold ZF at I;split at I
  .rename_i cs e
   rw[e]at rt;generalize hq:a.eval t=tv at rt;cases rt with
   |tup _ vs hn hv =>
   have ai:i<cs.length:=(qn.1 I).1;have a6:i<vs.size:=zOm;refine quiet (u:=vs.getD i vd) ?_ (hv i z I) C rfl;simp[hq,Instr.extract,a6,qB]
  grind
 case typeAssert x xt t ok =>
  obtain⟨z,I,C⟩:=h;obtain⟨u,g1,T⟩:=gO (P:=P) (j x) I;exact quiet g1 T C rfl
 case makeMap t r =>
  obtain⟨rfl,C⟩:=h;exact U (gy (P:=P) (t:=t) s) C rfl
 case lookup t m k ok =>
  obtain⟨z,I,C⟩:=h;obtain⟨u,g1,T⟩:=gg (P:=P) s (j m) (j k) I;exact quiet g1 T C rfl
 case mapUpdate t m k v =>
  obtain⟨m',hm,C⟩:=h;obtain⟨w',g1,T⟩:=Wr (P:=P) s (j m) (j k) (j v) hm;exact ZH (w':=w') g1 (hK _ _ _ _ _ C T (.sc _ rfl))
 case insert t m k v =>
  obtain⟨m',hm,C⟩:=h;obtain⟨w',g1,T⟩:=Wr (P:=P) s (j m) (j k) (j v) hm;exact ZH (w':=w') g1 (hK _ _ _ _ _ C T (.sc _ rfl))
 case mapEntry t m k =>
  obtain⟨z,I,C⟩:=h;exact U (gw s (j m) (j k) I) C rfl
 case entryStore t m st v =>
  obtain⟨m',hm,C⟩:=h;obtain⟨w',g1,T⟩:=gx (P:=P) (t:=t) s (j m) (j st) (j v) hm;exact ZH (w':=w') g1 (hK _ _ _ _ _ C T (.sc _ rfl))
 case range t m =>
  obtain⟨z,I,C⟩:=h;exact U (gz s (j m) I) C rfl
 case next i str =>
  obtain⟨_,rfl,hn⟩:=h;obtain⟨z,p,C,hg⟩:=gA (P:=P) (ty:=ty) s (j i) hn;exact U hg C rfl
 case entry i =>
  obtain⟨z,I,C⟩:=h;obtain⟨u,g1,T⟩:=gB (P:=P) s (j i) I;exact quiet g1 T C rfl
 case panic x =>
  obtain⟨_,t,v,hx,C⟩:=h;have rx:=j x;rw[hx]at rx;generalize hq:a.eval x=xv at rx;cases rx with
  |ifc _ _ u hu =>
  simp only[execOp,hq,Instr.panic];exact a5 _ _ _ _ _ C (Stp.refl s) (.ifc t v u hu)
 case call c =>
  obtain⟨callee,args,argTypes⟩:=c;simp only at h;cases callee with
  |invoke r m=>exact h.elim
  |builtin b =>
   have fin:∀ z,jU P mu b argTypes (evs ev args.toList)=some z->K z mu->Oper.upon P { dst,op := .call { callee := .builtin b,args,argTypes },type:=ty,pos,after,guard } a next Q
     ((execOp a.eval { dst,op := .call { callee := .builtin b,args,argTypes },type:=ty,pos,after,guard }).run P w):=by
    intro z I C;obtain⟨u,g1,T⟩:=gL (P:=P) (ty:=ty) (cs:=args.map fun | .const _=>true|_=>false) s (vq j args) I;have:(execOp a.eval { dst,op := .call { callee := .builtin b,args,argTypes },type:=ty,pos,after,guard }).run P w = .ok (.value u) w:=by
     grind [execOp,resolve,qz,qW,qA,invoke]
    rw[this];exact hK _ _ _ _ _ C (Stp.refl s) T
   have a7:Qe P mu b argTypes (evs ev args.toList) K->Oper.upon P { dst,op := .call { callee := .builtin b,args,argTypes },type:=ty,pos,after,guard } a next Q
     ((execOp a.eval { dst,op := .call { callee := .builtin b,args,argTypes },type:=ty,pos,after,guard }).run P w):=by
    intro⟨z,m,I,C⟩;have ra:=vq j args;obtain⟨u,w',g1,T,g3⟩:=gD (P:=P) (ty:=ty) (cs:=args.map fun | .const _=>true|_=>false) s ra.1 ra.2 I;have:(execOp a.eval { dst,op := .call { callee := .builtin b,args,argTypes },type:=ty,pos,after,guard }).run P w = .ok (.value u) w':=by
     grind [execOp,resolve,qz,qW,qA,invoke]
    rw[this];exact hK _ _ _ _ _ C T g3
   cases b<;>simp only at h<;>try (first|exact a7 h | (obtain⟨z,I,C⟩:=h;exact fin z I C))
   obtain⟨sv,xv,hl,a8⟩:=h;have ra:=vq j args;rw[hl]at ra;obtain⟨u,v,e1,ru,rv⟩:=ra.two_inv;obtain⟨z,p,C,v',w',G',g1,T,g3⟩:=pV (ty:=ty) s ru rv a8;have:(execOp a.eval { dst,op := .call { callee := .builtin .append,args,argTypes },type:=ty,pos,after,guard }).run P w = .ok (.value v') w':=by
    simp_all[execOp,resolve,qz,qW,qA,invoke,builtin]
   rw[this];exact hK _ _ _ _ _ C T g3
  |value f =>
   rcases h with ⟨v,hp,C⟩|⟨_,⟨g,fi,ca,R,hf,hs,hr,aj⟩|⟨i,R,hf,hs,C⟩⟩
   .obtain ⟨g,a3,a4,e1,a0,hc⟩:=Wv s (j f) (vq j args) hp
    have:(execOp a.eval { dst,op := .call { callee := .value f,args,argTypes },type:=ty,pos,after,guard }).run P w = .ok (.enter g (a3++args.map a.eval++a4)) w:=by
     simp only[execOp,resolve,qz,qW,qA,e1,Deferred.ofValue,invoke,a0 _ w]
    rw[this];refine hc.mono fun e w' ⟨G',u,he,a9,hu⟩=>?_
    grind
   .have rf:=j f
    rw[hf]at rf;generalize hq:a.eval f=fv at rf;cases rf with
    |fn _ _ _ a3 a4 hn hm hv hw =>
    obtain⟨a0,hs⟩:=hs;have:(execOp a.eval { dst,op := .call { callee := .value f,args,argTypes },type:=ty,pos,after,guard }).run P w = .ok (.enter g (a3++args.map a.eval++a4)) w:=by
     simp only[execOp,resolve,qz,qW,qA,hq,Deferred.ofValue,invoke,a0 _ w]
    rw[this];refine(hs G w _ s (s2 ⟨hn,hv⟩ (vq j args) ⟨hm,hw⟩)).mono fun e w' ⟨G',p,a9,h⟩=>?_
    rcases h with ⟨r,v,hR,rfl,aa⟩|⟨r,v,hR,rfl,aa⟩
    .grind
    grind
   .exact (hy ⟨f,args,argTypes,i,R,rfl,hf,hs,C⟩).elim
structure Ro where
 rd:Option Nat
 dl:List Deferred
 mks:Bool
 kp:List (AV×j3)
def Ro.fn:Ro:=⟨none,[],true,[]⟩
def Ro.round(l:Nat):Ro:=⟨some l,[],true,[]⟩
def WF(ro:Ro):Fence:={ Fence.wide with round:=ro.rd }
theorem Wy{ro:Ro}{next:Act->j2->Prop}{Q:Exit->Act->j2->Prop}{g:Result Next}(h:o.upon P a next Q g):o.uponIn (WF ro) 0 P a next Q g:=by
 have j:((WF ro).depth.isSome=true->1<=0):=fun h=>by simp[WF,Fence.wide]at h
 cases g with
 |halt i w=>cases i<;>first|exact h|exact h.elim
 |ok n w =>
  cases n
  case value v=>exact h
  case skip=>exact h
  case defer d=>exact h
  case enter f args =>
   refine⟨j,?_⟩;have:=(callsIn_wide (n:=0)).2 h;exact this
  case row row args =>
   refine⟨j,fun c l _=>?_⟩;obtain⟨v,p,r,t⟩:=h c l;exact⟨v,p,r,stepsIn_wide.2 t⟩
  all_goals exact h.elim
theorem ZI{pl:Pol}{det:Bool}{ro:Ro}{mu:Mu}{ev:uk->AV}(s:Sim G mu w.heap)(g:∀ x,VRel G w.heap (ev x) (a.eval x))
  (h:qt P pl det o.dst o.op ev mu K Kp) {next:Act->j2->Prop} {Q:Exit->Act->j2->Prop}
  (J:∀ v p G' w' u,K v p->Stp G mu w G' p w'->VRel G' w'.heap v u->next (a.put o.dst u) w')
  (t:∀ v p G' w' u,Kp v p->Stp G mu w G' p w'->VRel G' w'.heap v u->Q (.panic [{ v:=u,recovered:=false }]) a w'):o.wpIn (WF ro) 0 P a w next Q:=by
 have T:∀ c,o.op ≠ .defer c:=by
  grind [qt]
 refine⟨fun _ _=>trivial,?_⟩;rw[show (WF ro).round=ro.rd from rfl,Oper.semAt_eq _ _ _ T];by_cases hy:Wx P o.op ev mu K
 .obtain ⟨f,args,U,i,R,ho,hf,hs,hk⟩:=hy
  obtain⟨dst,op,ty,pos,after,guard⟩:=o;simp only at ho J t⊢;subst ho;have rf:=g f;rw[hf]at rf;generalize hq:a.eval f=fv at rf;cases rf with
  |yl _ l a0 hb =>
  obtain⟨fn,C,a1,I,h1,h2⟩:=hs G w (args.map a.eval) s (vq g args) l a0 hb;have:(execOp a.eval { dst,op := .call { callee := .value f,args,argTypes:=U },type:=ty,pos,after,guard }).run P w = .ok (.round l fn C a1 I) w:=by
   grind [execOp,resolve,qz,qW,qA,Deferred.ofValue,invoke]
  rw[this];refine⟨fun h=>by simp[WF,Fence.wide]at h,?_⟩;refine RoundIn.mono (F:=WF ro) (n:=0) h2 ?_;rintro e w' ⟨b,G',p,rfl,a2,hR⟩;exact J _ _ _ _ _ (hk b p hR) a2 (.sc _ rfl)
 .exact Wy (gP s g h hy J t)
end
end Go.Ev
namespace Go.Ev
open Go Go.RowKit
section
variable {ops:Array wx}
def pe(o:wx):List Edge:=o.after.toList.filter (Region.binds .any)
theorem JK{e:Edge}(h:Region.binds .any e=true)(m:Region.Mode):Region.binds m e=true:=by
 grind [Region.binds,absurd]
def vS(ops:Array wx)(i:Nat):List Nat:=match ops[i]? with|some o=>(pe o).map (·.on)|none=>[]
def Wz(ops:Array wx):Bool:=(qm ops.size).all fun i=>match ops[i]? with|some o=>o.after.toList.all fun e=>decide (e.on<i)||!Region.binds .text e|none=>true
def WA(ops:Array wx):Bool:=(qm ops.size).all fun i=>match ops[i]? with|some o=>o.after.toList.all fun e=>decide (e.on<i)|none=>true
def WB(ops:List wx):Nat->List Nat->List Nat
 | 0,g=>g.reverse
 |n+1,g=>match (qm ops.length).find? fun i=>!g.contains i&&(match ops[i]? with|some o=>o.after.toList.all fun e=>!Region.binds .gc e||g.contains e.on|none=>false) with
  |some i=>WB ops n (i :: g)
  |none=>g.reverse
def JL(ops:Array wx)(L:List Nat):Bool:=decide (L.length=ops.size)&&(qm L.length).all fun p=>match L[p]? with
 |some i=>!(L.take p).contains i&&(match ops[i]? with|some o=>o.after.toList.all fun e=>!Region.binds .gc e||(L.take p).contains e.on|none=>false)
 |none=>false
def yb(ops:Array wx):Bool:=Wz ops&&(WA ops||JL ops (WB ops.toList ops.size []))
theorem JM(h:yb ops=true):∀(i:Nat) (o:wx),ops[i]?=some o->∀ e,e∈o.after.toList->Region.binds .text e=true->e.on<i:=by
 intro i o g e j l;unfold yb at h;rw[qi]at h
 grind [Wz,qu,zw]
theorem WC{o:wx}{e:Edge}(h:e∈pe o):e∈o.after.toList/\Region.binds .text e=true:=⟨(jL.1 h).1,JK (jL.1 h).2 .text⟩
def Topo(ops:Array wx)(L:List Nat):Prop:=∀ pre j post,L=pre++j :: post->j<ops.size/\j ∉ pre/\∀ e,e∈vS ops j->e∈pre
theorem Topo.nil(ops:Array wx):Topo ops []:=fun pre j post h=>by simp at h
theorem Topo.snoc{L:List Nat}{j:Nat}(h:Topo ops L)(i:j<ops.size)(l:j ∉ L)(o:∀ e,e∈vS ops j->e∈L):Topo ops (L++[j]):=by
 intro pre k post e;rcases List.eq_nil_or_concat post with rfl|⟨g,x,rfl⟩
 .simp_all
 .rw [<-List.concat_eq_append,List.concat_eq_append,List.concat_eq_append,<-yS,<-List.append_assoc]at e
  have:=List.append_inj' e rfl;exact h pre k g this.1
theorem gQ(g:List Nat){n:Nat}:∀ i,i<n->i ∉ g->∃ j,j<n/\j ∉ g/\∀ k,k<j->k∈g:=by
 intro i;induction i using Nat.strongRecOn with
 |_ i l =>
  grind
theorem JN{m:Region.Mode}(l:∀(i:Nat) (o:wx),ops[i]?=some o->∀ e,e∈o.after.toList->Region.binds m e=true->e.on<i)(g:List Nat)(p:∃ i,i<ops.size/\i ∉ g) :
  ∃ j,j<ops.size/\j ∉ g/\∀ o,ops[j]?=some o->∀ e,e∈o.after.toList->Region.binds m e=true->e.on∈g:=by
 grind [gQ]
theorem gR{L:List Nat}(h:JL ops L=true)(g:List Nat)(I:∃ i,i<ops.size/\i ∉ g) :
  ∃ j,j<ops.size/\j ∉ g/\∀ o,ops[j]?=some o->∀ e,e∈o.after.toList->Region.binds .gc e=true->e.on∈g:=by
 unfold JL at h;rw[qi,decide_eq_true_eq,qu]at h;obtain⟨a2,J⟩:=h;have J:∀ p,p<L.length->∃ i,L[p]?=some i/\i ∉ L.take p/\∃ o,ops[i]?=some o/\∀ e,e∈o.after.toList->Region.binds .gc e=true->e.on∈L.take p:=by
  intro p r;have:=J p (zUs r)
  grind
 have P:L.Nodup:=by
  grind [List.Nodup,List.pairwise_iff_getElem,qq,qj,Jd]
 have R:∀ x,x∈L->x<ops.size:=by
  intro x t;obtain⟨p,r,e⟩:=Jd.1 t;obtain⟨y,T,_,o,ho,_⟩:=J p r;rw[qq r]at T;simp only[qj]at T;rw[<-e,T];exact(zw.1 ho).1
 have C:∀ i,i<ops.size->i∈L:=by
  intro i U;refine yR fun hn=>?_
  have h1:(i :: L).length<=(qm ops.size).length:=jv (vj.2 ⟨hn,P⟩) (fun k hk=>by
   rcases qp.1 hk with rfl|hk
   .simpa using U
   .simpa using R k hk)
  simp at h1;omega
 obtain⟨i,U,a0⟩:=I;have key:∀ n p,L.length=p+n->(∀ x,x∈L.take p->x∈g)->∃ q,q<L.length/\(∀ x,x∈L.take q->x∈g)/\∀ x,L[q]?=some x->x ∉ g:=by
  intro n;induction n with
  |zero =>
   intro p a1 t;rw[List.take_of_length_le zOm]at t;exact absurd (t i (C i U)) a0
  |succ n ih =>
   intro p a1 t;by_cases hc:L[p]' zOm∈g
   .refine ih (p+1) zOm fun x l=>?_
    rw[List.take_add_one,qq zOm]at l;rcases qR.1 l with h|h
    .exact t x h
    .simp at h;rw[h];exact hc
   .refine ⟨p,zOm,t,fun x l=>?_⟩
    rw[qq zOm]at l;simp only[qj]at l;rw[<-l];exact hc
 obtain⟨q,hq,h1,h2⟩:=key L.length 0 zOm zSp
 grind
theorem gS(h:yb ops=true)(m:Region.Mode)(g:List Nat)(l:∃ i,i<ops.size/\i ∉ g) :
  ∃ j,j<ops.size/\j ∉ g/\∀ o,ops[j]?=some o->∀ e,e∈o.after.toList->Region.binds m e=true->e.on∈g:=by
 have t:=JM h;cases m with
 |text=>exact JN t g l
 |any=>exact JN (fun i o C e I p=>t i o C e I (JK p .text)) g l
 |gc =>
  unfold yb at h;rw[qi,vL]at h;rcases h.2 with r|r
  .refine JN (fun i o C e I _=>?_) g l
   unfold WA at r
   grind
  .exact gR r g l
theorem gT(C:yb ops=true)(m:Region.Mode):∀(fuel t:Nat) (listed:Array Bool) (g:List Nat),fuel+g.length=ops.size->listed.size=ops.size ->
  (∀ i,i<ops.size->(listed.getD i true=true↔i∈g))->Topo ops g.reverse->g.Nodup->(∀ i,i∈g->i<ops.size) ->
  Topo ops (Region.linearise.go m ops fuel t listed g)/\(Region.linearise.go m ops fuel t listed g).length=ops.size:=by
 have U:=JM C;have l:=gS C m;intro fuel;induction fuel with
 |zero =>
  grind [Region.linearise.go]
 |succ fuel ih =>
  intro t listed g hf hs hl ht hn hb;simp only[Region.linearise.go];generalize a0:((qm ops.size).filter fun i=>!listed.getD i true&&((ops[i]?).map (·.after.all fun e=>!Region.binds m e||listed.getD e.on false)).getD false)=o;have I:∀ i,i∈o->i<ops.size/\i ∉ g/\∀ e,e∈vS ops i->e∈g:=by
   intro i p;rw[<-a0,jL]at p;obtain⟨T,h2⟩:=p;have T:i<ops.size:=zUs T;simp only[qi,Bool.not_eq_true']at h2;refine⟨T,fun h=>?_,fun e r=>?_⟩
   .grind
   .unfold vS at r
    have ho:ops[i]?=some ops[i]:=zP1 T;rw[ho]at r;simp only[qs]at r;obtain⟨x,a1,rfl⟩:=r;obtain⟨hx,a2⟩:=jL.1 a1;have h3:=h2.2;rw[ho]at h3;simp only[qU,Option.getD_some]at h3;have h4:=(Array.all_eq_true'.1 h3) x (zUs hx);rw[JK a2 m]at h4
    grind
  have a3:o≠[]:=by
   have a4:∃ i,i<ops.size/\i ∉ g:=by
    refine yR fun a5=>?_
    have J:∀ i,i<ops.size->i∈g:=fun i p=>yR fun h=>a5 ⟨i,p,h⟩
    have:(qm ops.size).length<=g.length:=jv (List.nodup_range) (fun i p=>J i (zUs p));simp at this;omega
   obtain⟨j,hj,a8,a7⟩:=l g a4
   grind
  have P:0<o.length:=List.length_pos_iff.2 a3;have R:t % o.length<o.length:=Nat.mod_lt _ P;rw[qq R];simp only;obtain⟨g1,g2,g3⟩:=I _ (List.getElem_mem R);generalize o[t % o.length]=i at g1 g2 g3;refine ih _ _ _ zSo (zP1 hs) ?_ ?_ (vj.2 ⟨g2,hn⟩) (fun k hk=>?_)
  .intro k hk
   by_cases a6:k=i
   .subst a6
    have:k<listed.size:=zOm;simp[qB,this]
   .have:=hl k hk
    simp only[qB]at this⊢
    grind
  .rw [List.reverse_cons]
   exact ht.snoc g1 (zUs g2) (fun e r=>by simpa using g3 e r)
  grind
theorem WD(j:yb ops=true)(g:Bool)(t:Nat):Topo ops (Region.schedule g ops t)/\(Region.schedule g ops t).length=ops.size:=by
 have key:∀(m:Region.Mode) (t:Nat),Topo ops (Region.linearise m ops t)/\(Region.linearise m ops t).length=ops.size:=by
  intro m t;unfold Region.linearise;exact gT j m ops.size t _ [] zSp zSp (fun i l=>by simp[qB,l]) (Topo.nil ops) List.nodup_nil zSp
 unfold Region.schedule;split
 .exact key _ _
 .exact key _ _
def vr(g:List Nat)(o:wx):Nat:=(pe o).foldl (fun s e=>s ||| (2 ^ e.on ||| g.getD e.on 0)) 0
def jw:List wx->List Nat->List Nat
 | [],g=>g
 |o :: l,g=>jw l (g++[vr g o])
theorem WE:∀(l:List wx) (g:List Nat),∃ r,jw l g=g++r/\r.length=l.length
 | [],g=>⟨[],by simp[jw],rfl⟩
 |o :: l,g=>by
  obtain⟨r,i,j⟩:=WE l (g++[vr g o])
  grind [vr,jw]
theorem WG(f:Edge->Nat)(i:Nat):∀(l:List Edge) (s:Nat),(l.foldl (fun s e=>s ||| f e) s).testBit i=true->s.testBit i=true\/∃ e,e∈l/\(f e).testBit i=true
 | [],s,h => .inl h
 |e :: l,s,h=>by
  simp only[List.foldl_cons]at h;rcases WG f i l _ h with h|⟨g,j,o⟩
  .grind
  grind
def zx(ops:Array wx)(j:Nat):Nat:=(jw ops.toList []).getD j 0
theorem WH:∀(l:List wx) (g:List Nat) (k:Nat) (o:wx),l[k]?=some o->(∀ e,e∈(pe o)->e.on<g.length+k) ->
  (jw l g).getD (g.length+k) 0=(pe o).foldl (fun s e=>s ||| (2 ^ e.on ||| (jw l g).getD e.on 0)) 0
 | [],g,k,o,h,_=>by simp at h
 |x :: l,g,k,o,h,p=>by
  simp only[jw];cases k with
  |zero =>
   simp at h;subst h;obtain⟨r,t,I⟩:=WE l (g++[vr g x]);rw[t];have C:(g++[vr g x]++r).getD (g.length+0) 0=vr g x:=by simp[qS]
   rw[C];unfold vr;have key:∀(i:List Edge) (s:Nat),(∀ e,e∈i->e.on<g.length)->i.foldl (fun s e=>s ||| (2 ^ e.on ||| g.getD e.on 0)) s=i.foldl (fun s e=>s ||| (2 ^ e.on ||| (g++[(pe x).foldl (fun s e=>s ||| (2 ^ e.on ||| g.getD e.on 0)) 0]++r).getD e.on 0)) s:=by
    intro i;induction i with
    |nil=>intro s _;rfl
    |cons e i J =>
     grind
   grind
  |succ k =>
   have:=WH l (g++[vr g x]) k o (zUs h) (fun e j=>by have:=p e j;simp;omega);rw[show (g++[vr g x]).length+k=g.length+(k+1) by simp;omega]at this;exact this
theorem gU(l:yb ops=true){j i:Nat}(r:j<ops.size)(h:(zx ops j).testBit i=true):∃ e,e∈vS ops j/\(i=e\/(zx ops e).testBit i=true):=by
 have g:=JM l;have o:ops[j]?=some ops[j]:=zP1 r;have t:vS ops j=(pe ops[j]).map (·.on):=by unfold vS;rw[o]
 have:=WH ops.toList [] j ops[j] zSp (fun e p=>by
  have:=g j _ o e (WC p).1 (WC p).2;simp;omega)
 simp only[List.length_nil,Nat.zero_add]at this;unfold zx at h⊢;rw[this]at h;rcases WG _ i _ _ h with h|⟨e,C,I⟩
 .simp at h
 grind
def JO(ops:Array wx)(S:Nat->Prop):Prop:=∀ j,S j->j<ops.size/\∀ i,(zx ops j).testBit i=true->S i
theorem JO.mask(g:yb ops=true){S:Nat->Prop}(r:JO ops S){j:Nat}(t:j<ops.size)(o:∀ e,e∈vS ops j->S e) :
  ∀ i,(zx ops j).testBit i=true->S i:=by
 intro i C;obtain⟨e,p,l⟩:=gU g t C;rcases l with rfl|l
 .exact o i p
 .exact (r e (o e p)).2 i l
def Bef(L:List Nat)(i k:Nat):Prop:=∀ p q,L=p++k :: q->i∈p
theorem s3:∀{L:List Nat} {i k:Nat},i∈L->k∈L->i≠k->Bef L i k\/Bef L k i
 | [],i,k,h,_,_=>absurd h zSp
 |x :: l,i,k,I,J,g=>by
  have cons:∀{i k:Nat},Bef l i k->x≠k->Bef (x :: l) i k:=by
   intro i k h P p q e;cases p with
   |nil=>grind
   |cons y t =>
    simp only[yS,Jh]at e;exact qJ _ (h t q e.2)
  have head:∀{k:Nat},x≠k->Bef (x :: l) x k:=by
   intro k P p q e;cases p with
   |nil=>grind
   |cons y t =>
    grind
  by_cases j:x=i
  .subst j;exact .inl (head g)
  .by_cases C:x=k
   .grind
   .have o:i∈l:=by simpa[Ne.symm j] using I
    have r:k∈l:=by simpa[Ne.symm C] using J
    rcases s3 o r g with h|h
    .exact .inl (cons h C)
    .exact .inr (cons h j)
theorem Topo.pre{p:List Nat}{j:Nat}(h:Topo ops (p++[j])):Topo ops p:=fun pre k post e=>h pre k (post++[j]) (by rw[e];simp)
theorem s4:∀(q:List Nat) {p:List Nat},Topo ops (p++q)->Topo ops p
 | [],p,h=>zUs h
 |j :: q,p,h=>by
  grind [Topo]
theorem s5(o:yb ops=true):∀(n:Nat) (p:List Nat),p.length=n->Topo ops p->JO ops (·∈p)/\p.Nodup:=by
 intro n;induction n with
 |zero=>intro p l _;have:=jt l;subst this;exact⟨fun j r=>by simp at r,List.nodup_nil⟩
 |succ n R =>
  intro p l J;rcases List.eq_nil_or_concat p with rfl|⟨P,j,rfl⟩
  .simp at l
  .rw [List.concat_eq_append]at *
   obtain⟨t,hn⟩:=R P (zUs l) J.pre;obtain⟨r,T,C⟩:=J P j [] rfl;have I:=t.mask o r C;refine⟨fun k g=>?_,?_⟩
   .rcases qR.1 g with g|g
    .exact ⟨(t k g).1,fun i U=>qR.2 (.inl ((t k g).2 i U))⟩
    grind
   grind
theorem Topo.bef(g:yb ops=true){L:List Nat}(l:Topo ops L){i k:Nat}(h:(zx ops k).testBit i=true):Bef L i k:=by
 intro p q e;obtain⟨o,_,j⟩:=l p k q e;have r:=(s5 g _ p rfl (s4 (k :: q) (by rw[<-e];exact l))).1;exact r.mask g o j i h
end
end Go.Ev
namespace Go.Ev
open Go Go.RowKit
section
variable {G G':Gh}{dl:List Deferred}{mu:Mu}{i:Nat}{w w':j2}
theorem uY{j:Nat}{c:Cell}(h:(mu.set i .dead)[j]?=some c)(g:c ≠ .dead):j≠i/\mu[j]?=some c:=by
 grind
theorem Live.hid{b:Nat}(h:Live G (mu.set i .dead) b):Live G mu b:=by
 obtain⟨j,c,g,o,l,p⟩:=h;exact⟨j,c,g,(uY o l).2,l,p⟩
theorem Sim.hid{h:Array Obj}(s:Sim G mu h)(i:Nat):Sim G (mu.set i .dead) h:=by
 refine⟨by simpa using s.len,s.imm,fun j c g l r o p=>s.obj j c g l (uY r o).2 o p,fun j c g l r o p=>s.live j c g l (uY r o).2 o p,?_,s.tab⟩;intro j k C I b J tk r o p t P R;exact s.inj j k C I b J tk (uY r p).2 (uY o t).2 p t P R
theorem Sim.hid_not{h:Array Obj}(s:Sim G mu h){i b t:Nat}{c:Cell}(p:mu[i]?=some c)(r:c ≠ .dead)(C:G.blk[i]?=some (b,t)):¬Live G (mu.set i .dead) b:=by
 rintro⟨j,I,g,J,o,P⟩;obtain⟨l,R⟩:=uY J o;exact l (s.inj j i I c b g t R p o r P C)
theorem Stp.unhid{M m:Mu}{b t:Nat}{c:Cell}(s:Sim G M w.heap)(hc:M[i]?=some c)(hd:c ≠ .dead)(hb:G.blk[i]?=some (b,t))(T:Stp G (M.set i .dead) w G' m w') :
  m[i]?=some .dead/\w'.heap[b]?=w.heap[b]?/\Stp G M w G' (m.set i c) w':=by
 have hn:=s.hid_not hc hd hb;obtain⟨o,ho,hr⟩:=s.obj i c b t hc hd hb;have a0:b<w.heap.size:=(zw.1 ho).1;have hk:w'.heap[b]?=w.heap[b]?:=T.keep b a0 hn;have r:G'.blk[i]?=some (b,t):=T.le.blk _ _ hb;have P:¬Live G' m b:=fun h=>(T.live b h).elim hn (fun g=>absurd a0 (Nat.not_lt.2 g))
 have hi:i<m.length:=by rw[<-T.sim.len];grind
 have hm:m[i]?=some .dead:=by
  have e:m[i]?=some m[i]:=qq hi;rw[e];by_cases hq:m[i] = .dead
  .rw [hq]
  .exact absurd ⟨i,m[i],t,e,hq,r⟩ P
 have a1:¬G'.imm b:=fun h=>by
  rcases T.inew b h with h|h|h
  .exact s.live i c b t hc hd hb h
  .exact hn h
  omega
 have a2:Ext G w.heap w'.heap:=T.ext (s.hid i);have l:∀(j:Nat) (x:Cell),(m.set i c)[j]?=some x->x ≠ .dead->(j=i/\x=c)\/(j≠i/\m[j]?=some x):=by
  intro j x hj hx;by_cases e:i=j
  .grind
  grind
 refine⟨hm,hk,T.le,⟨by simpa using T.sim.len,T.sim.imm,?_,?_,?_,T.sim.tab⟩,?_,T.size,?_,?_,T.tape,T.os,T.output,T.drawn⟩
 .intro j x R C U I p
  rcases l j x U I with ⟨rfl,rfl⟩|⟨_,J⟩
  .rw [r]at p
   obtain⟨rfl,rfl⟩:=Prod.mk.inj (Option.some.inj p);exact⟨o,by rw[hk];exact ho,hr.mono T.le a2⟩
  .exact T.sim.obj j x R C J I p
 .intro j x R C U I p
  rcases l j x U I with ⟨rfl,rfl⟩|⟨_,J⟩
  .rw [r]at p
   obtain⟨rfl,rfl⟩:=Prod.mk.inj (Option.some.inj p);exact a1
  .exact T.sim.live j x R C J I p
 .intro j k cj ck b' tj tk U I p J h5 h6
  rcases l j cj U p with ⟨rfl,rfl⟩|⟨e1,g1⟩<;>rcases l k ck I J with ⟨rfl,rfl⟩|⟨e2,g2⟩
  .rfl
  .rw [r]at h5
   obtain⟨rfl,rfl⟩:=Prod.mk.inj (Option.some.inj h5);exact absurd ⟨k,ck,tk,g2,J,h6⟩ P
  .rw [r]at h6
   obtain⟨rfl,rfl⟩:=Prod.mk.inj (Option.some.inj h6);exact absurd ⟨j,cj,tj,g1,p,h5⟩ P
  .exact T.sim.inj j k cj ck b' tj tk g1 g2 p J h5 h6
 .intro x hx hl
  exact T.keep x hx (fun h=>hl h.hid)
 .rintro x ⟨j,cj,C,U,I,p⟩
  rcases l j cj U I with ⟨rfl,rfl⟩|⟨_,J⟩
  .rw [r]at p
   obtain⟨rfl,rfl⟩:=Prod.mk.inj (Option.some.inj p);exact .inl ⟨j,cj,t,hc,hd,hb⟩
  .exact (T.live x ⟨j,cj,C,J,I,p⟩).imp (fun h=>h.hid) id
 .intro x hx
  rcases T.inew x hx with h|h|h
  .exact .inl h
  .exact .inr (.inl h.hid)
  .exact .inr (.inr h)
theorem Stp.drop{M:Mu}(s:Sim G M w.heap)(i:Nat):Stp G M w G (M.set i .dead) w:=
 ⟨.refl G,s.hid i,fun _ _ _=>rfl,qr _,fun _ h => .inl h.hid,fun _ h => .inl h,rfl,rfl,rfl,qr _⟩
theorem Sim.putOther{M:Mu}(s:Sim G M w.heap){D:Nat}{o:Obj}(I:¬Live G M D)(J:¬G.imm D):Sim G M (w.putObj D o).heap:=by
 have g:Ext G w.heap (w.putObj D o).heap:=⟨zSp,fun b p=>jQ (fun e=>J (e ▸ p))⟩;refine⟨s.len,fun b p=>by have:=s.imm b p;simp_all,?_,s.live,s.inj,s.tab.mono (fun _ h=>h) g.keep⟩;intro j x i l r t C;obtain⟨P,R,T⟩:=s.obj j x i l r t C;refine⟨P,?_,T.mono (.refl G) g⟩;rw[jQ (fun (e:i=D)=>I ⟨j,x,l,r,t,e ▸ C⟩)];exact R
structure Mk (G:Gh) (mu:Mu) (h:Array Obj) (D:Nat):Prop where
 obj:h[D]?=some (.deferred (some []))
 nlive:¬Live G mu D
 nimm:¬G.imm D
theorem Mk.step{p:Mu}{D:Nat}(m:Mk G mu w.heap D)(t:Stp G mu w G' p w'):Mk G' p w'.heap D:=by
 have i:D<w.heap.size:=(zw.1 m.obj).1;refine⟨by rw[t.keep D i m.nlive];exact m.obj,fun h=>?_,fun h=>?_⟩
 .exact (t.live D h).elim m.nlive (fun g=>absurd i (Nat.not_lt.2 g))
 .rcases t.inew D h with h|h|h
  .exact m.nimm h
  .exact m.nlive h
  omega
def mkOf(D:Nat):Deferred:={ target := .collected D,args:=#[] }
def Dfs(dl:List Deferred)(mk:Bool)(base:Nat)(G:Gh)(mu:Mu)(h:Array Obj)(ds:List Deferred):Prop:=∃ g:List Nat,(ds=g.map mkOf++dl/\(mk=false->g=[]))/\g.Nodup/\∀ D,D∈g->base<=D/\Mk G mu h D
theorem Dfs.nil(dl:List Deferred)(mk:Bool)(base:Nat)(G:Gh)(mu:Mu)(h:Array Obj):Dfs dl mk base G mu h dl:=⟨[],⟨rfl,fun _=>rfl⟩,List.nodup_nil,zSp⟩
theorem Dfs.step{mk:Bool}{base:Nat}{p:Mu}{ds:List Deferred}(d:Dfs dl mk base G mu w.heap ds)(t:Stp G mu w G' p w'):Dfs dl mk base G' p w'.heap ds:=by
 obtain⟨j,l,o,g⟩:=d;exact⟨j,l,o,fun D i=>⟨(g D i).1,(g D i).2.step t⟩⟩
def jV:List Nat->j2->j2
 | [],w=>w
 | D :: g,w=>jV g (w.putObj D (.deferred none))
theorem JP{P:qf}{F:Fence}{n:Nat}{fn:Func}{g:Array j3}{R:Ending->j2->Prop}{u:FrameMode}(l:u ≠ .run):∀(i:List Nat) (w:j2),i.Nodup->(∀ D,D∈i->w.heap[D]?=some (.deferred (some []))) ->
  LeavesInM F n P fn g R dl u (jV i w)->LeavesInM F n P fn g R (i.map mkOf++dl) u w
 | [],w,_,_,h=>h
 | D :: i,w,o,p,h=>by
  obtain⟨r,j⟩:=vj.1 o;refine⟨l,.inl ⟨D,w.putObj D (.deferred none),rfl,run_takeDeferred (p D zSp),JP l i _ j (fun E t=>?_) h⟩⟩
  grind [jQ]
theorem WI{r:Gh}{i:Mu}{l:j2}:∀(j:List Nat) (w:j2),j.Nodup->(∀ D,D∈j->l.heap.size<=D/\Mk G mu w.heap D)->Stp r i l G mu w ->
  Stp r i l G mu (jV j w)/\Ext G w.heap (jV j w).heap
 | [],w,_,_,t=>⟨t,Ext.refl _ _⟩
 | D :: j,w,R,o,t=>by
  obtain⟨p,C⟩:=vj.1 R;obtain⟨hb,I⟩:=o D zSp;have t1:Stp r i l G mu (w.putObj D (.deferred none)):=by
   refine⟨t.le,t.sim.putOther I.nlive I.nimm,fun b g T=>?_,by simpa using t.size,t.live,t.inew,t.tape,t.os,t.output,t.drawn⟩;rw[jQ zOm];exact t.keep b g T
  obtain⟨U,P⟩:=WI j (w.putObj D (.deferred none)) C (fun E J=>⟨(o E (zP1 J)).1,by
   have m:=(o E (zP1 J)).2;exact⟨by rw[jQ (fun (e:E=D)=>p (e ▸ J))];exact m.obj,m.nlive,m.nimm⟩⟩) t1
  .refine ⟨U,⟨Nat.le_trans zSp P.size,fun b g=>?_⟩⟩
   have:=P.keep b g;simp only[jV];rw[this,jQ (fun (e:b=D)=>I.nimm (e ▸ g))]
end
end Go.Ev
namespace Go.Ev
open Go Go.RowKit
section
variable {a:Act}{ops:Array wx}{G:Gh}{g m mu p:Mu}{o:wx}{ev':uk->AV}{pl:Pol}{P:qf}{w:j2}
def Br(b:Bool)(p q:Prop):Prop:=(b=true->p)/\(b=false->q)
def ul:AV->Bool->Option Bool
 | .sc (.bool b),g=>some (b == g)
 | .sc _,_=>some false
 |_,_=>none
def zp(ops:Array wx)(st:St)(o:wx):Option Bool:=
 match o.guard with
 |none=>some true
 |some (j,g)=>match (ops[j]?).bind (·.dst) with
  |none=>some false
  |some d=>ul (st.tm d) g
def awpS(P:qf)(pl:Pol)(det:Bool)(ops:Array wx):List wx->(St->Prop)->(AV->St->Prop)->St->Prop
 | [],Q,_,st=>Q st
 |o :: l,Q,g,st=>OptK (zp ops st o) fun b =>
   Br b (qt P pl det o.dst o.op st.ev st.mu (fun v m=>awpS P pl det ops l Q g (st.put o.dst v m)) (fun v m=>g v ⟨st.tm,m⟩)) (awpS P pl det ops l Q g (st.put o.dst (.sc vd) st.mu))
structure Rel (ro:Ro) (G0:Gh) (mu0:Mu) (w0:j2) (n:Nat) (G:Gh) (st:St) (a:Act) (w:j2):Prop where
 tm:∀ i,VRel G w.heap (st.tm i) (a.tmps.getD i vd)
 df:ro.rd=none->Dfs ro.dl ro.mks w0.heap.size G st.mu w.heap a.defers
 size:a.tmps.size=n
 stp:Stp G0 mu0 w0 G st.mu w
 kp:∀ p,p∈ro.kp->VRel G w.heap p.1 p.2
theorem Rel.ev{ro:Ro}{j:Gh}{i:Mu}{l:j2}{n:Nat}{st:St}(r:Rel ro j i l n G st a w)(x:uk):VRel G w.heap (st.ev x) (a.eval x):=by
 cases x with
 |tmp t=>exact r.tm t
 |const v=>exact .ofV v
 |global g=>exact .any _
 |func f=>exact .fn _ [] [] _ _ rfl rfl zSp zSp
def dOk(n:Nat):Option Tmp->Bool|some d=>decide (d<n)|none=>true
theorem Rel.put{ro:Ro}{j:Gh}{l:j2}{n:Nat}{G':Gh}{st:St}{w':j2}{v:AV}{u:j3}{d:Option Tmp}(I:Sim j g l.heap)(r:Rel ro j g l n G st a w)(t:Stp G st.mu w G' m w')(P:VRel G' w'.heap v u)
  (o:dOk n d=true):Rel ro j g l n G' (st.put d v m) (a.put d u) w':=by
 refine⟨fun i=>?_,?_,?_,r.stp.trans I t,fun p J=>t.vrel r.stp.sim (r.kp p J)⟩
 .cases d with
  |none=>exact t.vrel r.stp.sim (r.tm i)
  |some d =>
   simp only[dOk,decide_eq_true_eq]at o;simp only[St.put,Act.put];by_cases C:i=d
   .subst C
    rw[if_pos rfl];have:i<a.tmps.size:=by rw[r.size];exact o
    simp_all
   .rw [if_neg C]
    have:(a.tmps.setIfInBounds d u).getD i vd=a.tmps.getD i vd:=by
     simp only[qB]
     grind
    rw[this];exact t.vrel r.stp.sim (r.tm i)
 .intro h
  have:=(r.df h).step t;cases d<;>exact this
 .cases d with
  |none=>exact r.size
  |some d=>simp[Act.put,r.size]
theorem Rel.drew{ro:Ro}{i:Gh}{j:j2}{n:Nat}{st:St}(l:Sim i g j.heap)(r:Rel ro i g j n G st a w):Rel ro i g j n G st a w.drew:=
 ⟨r.tm,r.df,r.size,r.stp.trans l (Stp.drew r.stp.sim),r.kp⟩
theorem ZJ{ro:Ro}{C:Gh}{l:Mu}{I:j2}{n:Nat}{st:St}(r:Rel ro C l I n G st a w){ops:Array wx}{o:wx}{b:Bool}(h:zp ops st o=some b):Region.wanted o (yielded ops a.tmps)=b:=by
 unfold zp at h;unfold Region.wanted;cases i:o.guard with
 |none=>rw[i]at h;simpa using h
 |some q =>
  obtain⟨j,t⟩:=q;rw[i]at h;simp only at h⊢;unfold yielded;cases J:(ops[j]?).bind (·.dst) with
  |none=>grind
  |some d =>
   rw[J]at h;simp only[Option.bind_some]at h⊢;have rd:=r.tm d;have g:a.tmps[d]?=some (a.tmps.getD d vd)\/a.tmps[d]?=none/\a.tmps.getD d vd=vd:=by
    simp only[qB]
    grind
   unfold ul at h;split at h
   .rename_i P p
    simp only[qj]at h;subst h;rw[p]at rd;generalize a.tmps.getD d vd=v at rd g;cases rd;rcases g with i|⟨_,i⟩
    .grind
    .exact absurd i (by simp[vd])
   .rename_i v R p
    simp only[qj]at h;subst h;rw[p]at rd;generalize a.tmps.getD d vd=T at rd g;cases rd;rcases g with i|⟨i,_⟩
    .grind
    .rw [i];rfl
   grind
theorem WJ{ro:Ro}{l2:List wx}{C:Gh}{I:j2}{n:Nat}(J:Sim C g I.heap){Q:St->Prop}{Qp:AV->St->Prop}{QQ:Exit->Act->j2->Prop}
  (hQ:∀ st a w G,Q st->Rel ro C g I n G st a w->wpListIn (WF ro) 0 P ops QQ l2 a w)
  (R:∀ v st a w G u,Qp v st->Rel ro C g I n G st a w->VRel G w.heap v u->QQ (.panic [{ v:=u,recovered:=false }]) a w) :
  ∀(l:List wx) (st:St) (a:Act) (w:j2) (G:Gh),Rel ro C g I n G st a w->(l.all fun o=>dOk n o.dst)=true->awpS P pl false ops l Q Qp st->wpListIn (WF ro) 0 P ops QQ (l++l2) a w:=by
 intro l;induction l with
 |nil=>intro st a w G r _ h;exact hQ st a w G h r
 |cons o l ih =>
  intro st a w G r t h;simp only[List.all_cons,qi]at t;obtain⟨b,hb,h1,h2⟩:=h;have hw:=ZJ r hb;simp only[yS,wpListIn,hw];cases b with
  |false =>
   rw[if_neg zSp];exact⟨fun _ _=>trivial,ih _ _ _ G (r.put J (Stp.refl r.stp.sim) (.sc _ rfl) t.1) t.2 (h2 rfl)⟩
  |true =>
   rw[if_pos rfl];refine ZI r.stp.sim r.ev (h1 rfl) ?_ ?_
   .intro v p T w' u U j hv
    exact ih _ _ _ T (r.put J j hv t.1) t.2 U
   .intro v p T w' u U j hv
    refine R v ⟨st.tm,p⟩ a w' T u U ?_ hv;exact r.put (d:=none) J j (.any vd) rfl
theorem JQ{ro:Ro}{j:Gh}{p:j2}{n:Nat}(I:Sim j g p.heap){Q:St->Prop}{C:AV->St->Prop}{QQ:Exit->Act->j2->Prop}
  (J:∀ st a w G,Q st->Rel ro j g p n G st a w->QQ .normal a w)
  (t:∀ v st a w G u,C v st->Rel ro j g p n G st a w->VRel G w.heap v u->QQ (.panic [{ v:=u,recovered:=false }]) a w) :
  ∀(l:List wx) (st:St) (a:Act) (w:j2) (G:Gh),Rel ro j g p n G st a w->(l.all fun o=>dOk n o.dst)=true->awpS P pl false ops l Q C st->wpListIn (WF ro) 0 P ops QQ l a w:=by
 intro l st a w G r R h;have:=WJ (l2:=[]) I (fun st a w G T r=>J st a w G T r) t l st a w G r R h
 grind
def memW(pl:Pol)(o:wx):Bool:=
 match o.op with
 | .alloc _ | .store .. | .makeSlice .. | .mapUpdate .. | .mapEntry .. | .entryStore .. | .makeMap .. | .insert .. | .range .. | .next .. => true
 | .box .. => o.dst.any pl.mt.contains
 | .call c=>match c.callee with | .builtin .append | .builtin .copy | .builtin .delete | .builtin .clear=>true|_=>false
 |_=>false
def memR(o:wx):Bool:=
 match o.op with
 | .load .. | .call _ | .lookup .. | .entry .. => true
 |_=>false
def JR(l:Array uk):List Tmp:=l.toList.filterMap fun | .tmp t=>some t|_=>none
def vt(ops:Array wx)(o:wx):List Tmp:=
 JR o.op.operands++(match o.guard with|some (j,_)=>((ops[j]?).bind (·.dst)).toList|none=>[])
def JS(pl:Pol)(o:wx):Bool:=
 match o.op with
 | .alloc _ | .makeSlice .. | .makeMap .. => true
 | .box .. => o.dst.any pl.mt.contains
 |_=>false
def reads(pl:Pol)(o:wx):Bool:=memR o&&!memW pl o
def soft(pl:Pol)(a b:wx):Bool:=
 (match a.op,b.op with
 | .lookup t _ _ false,.mapEntry g _ _=>t == g
 |_,_=>false)||(reads pl a&&JS pl b)
def zB(pl:Pol)(ops:Array wx)(a b:wx):Bool:=
 (memW pl a&&(memW pl b||memR b))||(memR a&&memW pl b&&!soft pl a b) ||
 (match a.dst with|some d=>(vt ops b).contains d||b.dst == some d|none=>false) ||
 (match b.dst with|some d=>(vt ops a).contains d|none=>false)
def uZ(pl:Pol)(ops:Array wx):Bool:=
 yb ops&&(let g:=jw ops.toList [];(qm ops.size).all fun j=>(qm j).all fun i =>
  match ops[i]?,ops[j]? with|some a,some b=>!zB pl ops a b||(g.getD j 0).testBit i|_,_=>true)
theorem gV(h:uZ pl ops=true):yb ops=true/\∀(i j:Nat) a b,i<j->ops[i]?=some a->ops[j]?=some b->zB pl ops a b=true->(zx ops j).testBit i=true:=by
 unfold uZ at h;rw[qi]at h;refine⟨h.1,fun i j a b g p l r=>?_⟩;have t:j<ops.size:=(zw.1 l).1;have o:=h.2;simp only[qu,zY]at o;have:=o j t i g;rw[p,l]at this;simp only[r,Bool.not_true,Bool.false_or]at this;exact this
def JT(pl:Pol)(ops:Array wx)(a b:Nat):Bool:=
 yb ops&&(let g:=jw ops.toList [];(qm ops.size).all fun j=>(qm j).all fun i=>(i == a&&j == b) ||
  match ops[i]?,ops[j]? with|some x,some y=>!zB pl ops x y||(g.getD j 0).testBit i|_,_=>true) &&
 (qm b).all fun k=>!(decide (a<k))||match ops[k]?,ops[a]? with|some x,some y=>!zB pl ops x y|_,_=>true
theorem gW{a b:Nat}(h:JT pl ops a b=true):yb ops=true/\(∀(i j:Nat) x y,i<j->¬(i=a/\j=b)->ops[i]?=some x->ops[j]?=some y->zB pl ops x y=true->(zx ops j).testBit i=true) /\
  ∀(k:Nat) x y,a<k->k<b->ops[k]?=some x->ops[a]?=some y->zB pl ops x y=false:=by
 unfold JT at h;rw[qi,qi]at h;refine⟨h.1.1,fun i j x y l o t p C=>?_,fun k x y I g J P=>?_⟩
 .have R:j<ops.size:=(zw.1 p).1
  have g:=h.1.2;simp only[qu,zY]at g;have:=g j R i l;rw[t,p,vL]at this;rcases this with this|this
  .simp at this;exact absurd this o
  .simp only[C,Bool.not_true,Bool.false_or]at this
   exact this
 .have r:=h.2
  simp only[qu,zY]at r;have:=r k g;rw[J,P]at this;simpa[I] using this
def DS(P:qf)(pl:Pol)(o:wx)(ev:uk->AV)(mu:Mu)(v:AV)(m:Mu):Prop:=qt P pl true o.dst o.op ev mu (fun a b=>a=v/\b=m) (fun _ _=>False)
theorem qt.det{ev:uk->AV}{K t:AV->Mu->Prop}(h:qt P pl true o.dst o.op ev mu K t):∃ v m,DS P pl o ev mu v m/\K v m:=by
 unfold DS;generalize o.dst=C at *
 cases I:o.op<;>rw[I]at h<;>simp only[qt]at h⊢<;>try (exact h.elim)
 case move=>exact⟨_,_,⟨rfl,rfl⟩,h⟩
 case assign=>exact⟨_,_,⟨rfl,rfl⟩,h⟩
 case makeFunc=>exact⟨_,_,⟨rfl,rfl⟩,h⟩
 case pick=>grind
 case alloc=>obtain⟨z,i,j,J⟩:=h;exact⟨_,_,⟨z,i,j,rfl,rfl⟩,J⟩
 case box =>
  grind
 case build=>obtain⟨l,z,i,j⟩:=h;exact⟨_,_,⟨l,z,i,rfl,rfl⟩,j⟩
 case buildSlice=>obtain⟨z,i,j⟩:=h;exact⟨_,_,⟨z,i,rfl,rfl⟩,j⟩
 case load=>obtain⟨z,i,j⟩:=h;exact⟨_,_,⟨z,i,rfl,rfl⟩,j⟩
 case store=>obtain⟨z,i,j⟩:=h;exact⟨_,_,⟨z,i,rfl,rfl⟩,j⟩
 case nilCheck=>obtain⟨z,i,j⟩:=h;exact⟨_,_,⟨z,i,rfl,rfl⟩,j⟩
 case binOp =>
  split at h
  .rename_i p
   simp only[if_pos p];obtain⟨z,T,U⟩:=h.det
   grind
  .rename_i p
   simp only[if_neg p];obtain⟨z,i,j⟩:=h;exact⟨_,_,⟨z,i,rfl,rfl⟩,j⟩
 case unOp=>obtain⟨z,i,j⟩:=h;exact⟨_,_,⟨z,i,rfl,rfl⟩,j⟩
 case convert=>obtain⟨l,z,i,j⟩:=h;exact⟨_,_,⟨l,z,i,rfl,rfl⟩,j⟩
 case makeInterface=>grind
 case makeSlice=>obtain⟨z,i,j⟩:=h;exact⟨_,_,⟨z,i,rfl,rfl⟩,j⟩
 case slice=>obtain⟨l,z,i,j⟩:=h;exact⟨_,_,⟨l,z,i,rfl,rfl⟩,j⟩
 case fieldAddr=>obtain⟨z,i,j⟩:=h;exact⟨_,_,⟨z,i,rfl,rfl⟩,j⟩
 case field=>obtain⟨z,i,j⟩:=h;exact⟨_,_,⟨z,i,rfl,rfl⟩,j⟩
 case indexAddr=>obtain⟨z,i,j⟩:=h;exact⟨_,_,⟨z,i,rfl,rfl⟩,j⟩
 case index=>obtain⟨z,i,j⟩:=h;exact⟨_,_,⟨z,i,rfl,rfl⟩,j⟩
 case extract=>obtain⟨z,i,j⟩:=h;exact⟨_,_,⟨z,i,rfl,rfl⟩,j⟩
 case typeAssert=>obtain⟨z,i,j⟩:=h;exact⟨_,_,⟨z,i,rfl,rfl⟩,j⟩
 case makeMap=>grind
 case lookup=>obtain⟨z,i,j⟩:=h;exact⟨_,_,⟨z,i,rfl,rfl⟩,j⟩
 case mapUpdate=>obtain⟨z,i,j⟩:=h;exact⟨_,_,⟨z,i,rfl,rfl⟩,j⟩
 case insert=>obtain⟨z,i,j⟩:=h;exact⟨_,_,⟨z,i,rfl,rfl⟩,j⟩
 case mapEntry=>obtain⟨z,i,j⟩:=h;exact⟨_,_,⟨z,i,rfl,rfl⟩,j⟩
 case entryStore=>obtain⟨z,i,j⟩:=h;exact⟨_,_,⟨z,i,rfl,rfl⟩,j⟩
 case range=>obtain⟨z,i,j⟩:=h;exact⟨_,_,⟨z,i,rfl,rfl⟩,j⟩
 case next=>exact absurd h.1 zSp
 case entry=>obtain⟨z,i,j⟩:=h;exact⟨_,_,⟨z,i,rfl,rfl⟩,j⟩
 case panic=>exact absurd h.1 zSp
 case call c =>
  obtain⟨callee,args,R⟩:=c;cases callee with
  |invoke r m=>exact h.elim
  |value f =>
   rcases h with ⟨v,i,j⟩|⟨i,_⟩
   .exact ⟨_,_,.inl ⟨v,i,rfl,rfl⟩,j⟩
   .exact absurd i zSp
  |builtin b =>
   cases b<;>simp only at h⊢<;>try (first | (obtain⟨z,m,i,j⟩:=h;exact⟨_,_,⟨z,m,i,rfl,rfl⟩,j⟩) | (obtain⟨z,i,j⟩:=h;exact⟨_,_,⟨z,i,rfl,rfl⟩,j⟩))
   obtain⟨s,x,i,h⟩:=h;obtain⟨v,m,g,k⟩:=h.det;exact⟨v,m,⟨s,x,i,g⟩,k⟩
theorem DS.mem{ev:uk->AV}{v:AV}(h:DS P pl o ev mu v m)(l:memW pl o=false):m=mu/\(memR o=false->∀ i,DS P pl o ev i v i):=by
 unfold DS at *
 unfold memW at l;unfold memR;cases C:o.op<;>rw[C]at h l<;>simp only[qt]at h⊢<;>try (exact h.elim)
 case move=>grind
 case assign=>grind
 case makeFunc=>grind
 case pick=>grind
 case alloc=>exact absurd l zSp
 case box =>
  grind
 case build=>obtain⟨p,z,j,g⟩:=h;exact⟨g.2.symm,fun _ i=>⟨p,z,j,g.1,by first|rfl|trivial⟩⟩
 case buildSlice=>obtain⟨z,j,g⟩:=h;exact⟨g.2.symm,fun _ i=>⟨z,j,g.1,by first|rfl|trivial⟩⟩
 case load=>obtain⟨z,j,g⟩:=h;grind
 case store=>exact absurd l zSp
 case nilCheck=>obtain⟨z,j,g⟩:=h;exact⟨g.2.symm,fun _ i=>⟨z,j,g.1,by first|rfl|trivial⟩⟩
 case binOp =>
  split at h
  .rename_i t
   simp only[if_pos t];obtain⟨z,J,R⟩:=h.det
   grind
  .rename_i t
   simp only[if_neg t];obtain⟨z,j,g⟩:=h;exact⟨g.2.symm,fun _ i=>⟨z,j,g.1,by first|rfl|trivial⟩⟩
 case unOp=>obtain⟨z,j,g⟩:=h;exact⟨g.2.symm,fun _ i=>⟨z,j,g.1,by first|rfl|trivial⟩⟩
 case convert=>obtain⟨p,z,j,g⟩:=h;exact⟨g.2.symm,fun _ i=>⟨p,z,j,g.1,by first|rfl|trivial⟩⟩
 case makeInterface=>grind
 case makeSlice=>exact absurd l zSp
 case slice=>obtain⟨p,z,j,g⟩:=h;exact⟨g.2.symm,fun _ i=>⟨p,z,j,g.1,by first|rfl|trivial⟩⟩
 case fieldAddr=>obtain⟨z,j,g⟩:=h;exact⟨g.2.symm,fun _ i=>⟨z,j,g.1,by first|rfl|trivial⟩⟩
 case field=>obtain⟨z,j,g⟩:=h;exact⟨g.2.symm,fun _ i=>⟨z,j,g.1,by first|rfl|trivial⟩⟩
 case indexAddr=>obtain⟨z,j,g⟩:=h;exact⟨g.2.symm,fun _ i=>⟨z,j,g.1,by first|rfl|trivial⟩⟩
 case index=>obtain⟨z,j,g⟩:=h;exact⟨g.2.symm,fun _ i=>⟨z,j,g.1,by first|rfl|trivial⟩⟩
 case extract=>obtain⟨z,j,g⟩:=h;exact⟨g.2.symm,fun _ i=>⟨z,j,g.1,by first|rfl|trivial⟩⟩
 case typeAssert=>obtain⟨z,j,g⟩:=h;exact⟨g.2.symm,fun _ i=>⟨z,j,g.1,by first|rfl|trivial⟩⟩
 case makeMap=>exact absurd l zSp
 case lookup=>obtain⟨z,j,g⟩:=h;grind
 case mapUpdate=>exact absurd l zSp
 case insert=>exact absurd l zSp
 case mapEntry=>exact absurd l zSp
 case entryStore=>exact absurd l zSp
 case range=>exact absurd l zSp
 case next=>exact absurd l zSp
 case entry=>obtain⟨z,j,g⟩:=h;grind
 case panic=>exact absurd h.1 zSp
 case call c =>
  obtain⟨callee,args,I⟩:=c;cases callee with
  |invoke r m=>exact h.elim
  |value f =>
   rcases h with ⟨v,j,g⟩|⟨j,_⟩
   .grind
   grind
  |builtin b =>
   cases b<;>simp only at h l⊢<;>first
    | (obtain⟨z,j,g⟩:=h;grind)
    | (exact absurd l zSp)
theorem u3{ev:uk->AV}{l:Array uk}(h:∀ x,x∈l->ev x=ev' x):evs ev l.toList=evs ev' l.toList:=
 List.map_congr_left fun x g=>h x (zUs g)
theorem ZK{ev:uk->AV}{l:Array (Nat×uk)}(h:∀ x,x∈(l.toList.map (·.2)).toArray->ev x=ev' x):(l.toList.map fun p=>(p.1,ev p.2))=l.toList.map fun p=>(p.1,ev' p.2):=
 List.map_congr_left fun p g=>by grind
theorem ZL{ev:uk->AV}{o:Option uk}(h:∀ x,x∈o.toArray->ev x=ev' x):o.map ev=o.map ev':=by
 cases o with
 |none=>rfl
 |some x=>simp[h x zSp]
theorem DS.congr{ev:uk->AV}{v:AV}(h:DS P pl o ev mu v m)(g:∀ x,x∈o.op.operands->ev x=ev' x):DS P pl o ev' mu v m:=by
 unfold DS at *
 cases p:o.op<;>rw[p]at h g<;>simp only[qt,Op.operands]at h g⊢<;>try (exact h.elim)
 case move x=>rw[<-g x zSp];exact h
 case assign x=>rw[<-g x zSp];exact h
 case makeFunc f first j =>
  grind [u3]
 case pick c x y=>grind
 case alloc=>exact h
 case box t x=>rw[<-g x zSp];exact h
 case build t C=>rw[<-ZK g];exact h
 case buildSlice t n C=>rw[<-ZK g];exact h
 case load t x=>rw[<-g x zSp];exact h
 case store t x y=>grind
 case nilCheck x=>rw[<-g x zSp];exact h
 case binOp op t x y R=>grind
 case unOp op t x=>rw[<-g x zSp];exact h
 case convert s t x=>rw[<-g x zSp];exact h
 case makeInterface t x=>rw[<-g x zSp];exact h
 case makeSlice t x y=>grind
 case slice t x T U mx =>
  grind [ZL]
 case fieldAddr t x f=>rw[<-g x zSp];exact h
 case field t x f=>rw[<-g x zSp];exact h
 case indexAddr t x i=>grind
 case index t x i=>grind
 case extract x i=>rw[<-g x zSp];exact h
 case typeAssert x xt t ok=>rw[<-g x zSp];exact h
 case makeMap=>exact h
 case lookup t m k ok=>grind
 case mapUpdate t m k v=>grind
 case insert t m k v=>grind
 case mapEntry t m k=>grind
 case entryStore t m k v=>grind
 case range t m=>rw[<-g m zSp];exact h
 case next=>exact absurd h.1 zSp
 case entry i=>rw[<-g i zSp];exact h
 case panic x=>exact absurd h.1 zSp
 case call c =>
  obtain⟨callee,args,I⟩:=c;cases callee with
  |invoke r m=>exact h.elim
  |value f =>
   grind [Call.operands,u3]
  |builtin b =>
   simp only[Call.operands]at g;simp only at h⊢;rw[<-u3 (l:=args) (fun x J=>g x (zP1 J))];exact h
theorem WL(i:MuLe mu g){p:AV}{n:Nat}{cs:List AV}(h:yZ mu p n=some cs):yZ g p n=some cs:=by
 unfold yZ at *
 split at h
 .exact h
 .split at h
  .rename_i j;rw[i _ _ j];exact h
  grind
 grind
theorem gX{i:Mu}(j:MuLe mu i){t:j1}{p z:AV}(h:jR P mu t p=some z):jR P i t p=some z:=by
 unfold jR at *
 split at h
 .rename_i n o r
  cases g:yZ mu p n with
  |none=>rw[g]at h;exact absurd h zSp
  |some l=>rw[g]at h;rw[WL j g];exact h
 .cases g:yZ mu p 1 with
  |none=>rw[g]at h;exact absurd h zSp
  |some l=>rw[g]at h;rw[WL j g];exact h
 grind
theorem gY(g:MuLe mu p){m:AV}{es:List (AV×AV)}(h:jj mu m=some es):jj p m=some es:=by
 unfold jj at *
 split at h
 .exact h
 .split at h
  .rename_i i;rw[g _ _ i];exact h
  grind
 .exact h
 grind
theorem WM(g:MuLe mu p){t:j1}{m k z:AV}{ok:Bool}(h:yn P mu t m k ok=some z):yn P p t m k ok=some z:=by
 grind [yn,gY,absurd]
theorem gZ(g:MuLe mu p){t:j1}{m k z:AV}{ok:Bool}(h:z5 P mu t m k ok=some z):z5 P p t m k ok=some z:=by
 cases m with
 |ims i =>
  simp only[z5]at h⊢;cases j:mapT P t with
  |none=>rw[j]at h;exact absurd h zSp
  |some q =>
   rw[j]at h;simp only at h⊢;split at h
   .rename_i l
    rw[if_pos l];exact WM g h
   grind
 |_=>exact WM g h
theorem g7(g:MuLe mu p){x z:AV}(h:uj mu x=some z):uj p x=some z:=by
 unfold uj at *
 split at h
 .split at h
  .rename_i i;rw[g _ _ i];exact h
  grind
 grind
theorem g8(g:MuLe mu p){t:j1}{x z:AV}(h:lenA P mu t x=some z):lenA P p t x=some z:=by
 unfold lenA at *
 split at h
 .exact h
 .exact h
 .exact h
 .exact h
 .exact h
 .split at h
  .rename_i i j;rw[i,g _ _ j];exact h
  grind
 grind
theorem g9(g:MuLe mu p){b:Builtin}{ts:Array j1}{xs:List AV}{z:AV}(h:jU P mu b ts xs=some z):jU P p b ts xs=some z:=by
 unfold jU at *
 split at h
 .exact g8 g h
 .exact h
 .exact h
 .exact h
 grind
theorem Rd.le(P:MuLe mu p){x y:AV}(h:Rd mu x y):Rd p x y:=by
 induction h with
 |hf x h=>exact .hf x h
 |sl b j off len cells l I hl g R h o=>exact .sl b j off len cells l (P _ _ I) hl g R o
 |ptr b off cells l I g h o=>exact .ptr b off cells l (P _ _ I) g o
 |mp b i T I g hk hv r C=>exact .mp b i T (P _ _ I) g r C
 |md b i T I g hk hv r C=>exact .md b i T (P _ _ I) g r C
 |agg J l g h o=>exact .agg J l g o
 |tup J l g h o=>exact .tup J l g o
 |lst full J l g R h o=>exact .lst full J l g R o
 |fn f a b c d g U h h' r C=>exact .fn f a b c d g U r C
 |ifc t x y h o=>exact .ifc t x y o
 |wk x full l h o=>exact .wk x full l o
 |ims x i a0 σ τ hp hd h o=>exact .ims x i a0 σ τ hp hd o
theorem Rds.le(g:MuLe mu p):∀{xs ys:List AV},Rds mu xs ys->Rds p xs ys
 | [],[],_=>trivial
 |x :: xs,y :: ys,⟨h,t⟩=>⟨h.le g,Rds.le g t⟩
 | [],_ :: _,h=>h.elim
 |_ :: _,[],h=>h.elim
theorem Qb.le(t:MuLe mu p){f:AV}{args:List AV}{v:AV}(h:Qb P mu f args v):Qb P p f args v:=by
 rcases h with ⟨g,first,j,i,o,r,l⟩|⟨g,first,j,i,o,r,l⟩
 .refine .inl ⟨g,first,j,i,o,r,?_⟩
  rcases l with l|⟨l,C⟩
  .exact .inl l
  .exact .inr ⟨l.le t,C⟩
 .exact .inr ⟨g,first,j,i,o,r,l.le t⟩
theorem DS.le{ev:uk->AV}{v:AV}(j:reads pl o=true)(l:MuLe mu p)(h:DS P pl o ev mu v m):DS P pl o ev p v p:=by
 unfold reads at j;rw[qi,Bool.not_eq_true']at j;obtain⟨j,t⟩:=j;unfold DS at *
 unfold memR at j;unfold memW at t;cases C:o.op<;>rw[C]at h j t<;>simp only[qt]at h⊢<;>try grind
 case load=>obtain⟨z,g,i⟩:=h;exact⟨z,gX l g,i.1,by first|rfl|trivial⟩
 case lookup=>obtain⟨z,g,i⟩:=h;exact⟨z,gZ l g,i.1,by first|rfl|trivial⟩
 case entry=>obtain⟨z,g,i⟩:=h;exact⟨z,g7 l g,i.1,by first|rfl|trivial⟩
 case call c =>
  obtain⟨callee,args,I⟩:=c;cases callee with
  |invoke r m=>exact h.elim
  |value f =>
   rcases h with ⟨v,g,i⟩|⟨g,_⟩
   .exact .inl ⟨v,g.le l,i.1,by first|rfl|trivial⟩
   grind
  |builtin b =>
   cases b<;>simp only at h t⊢<;>first
    | (obtain⟨z,g,i⟩:=h;exact⟨z,g9 l g,i.1,by first|rfl|trivial⟩)
    | (exact absurd t zSp)
theorem DS.push{ev:uk->AV}{v:AV}(j:JS pl o=true)(h:DS P pl o ev mu v m):MuLe mu m:=by
 unfold DS at *
 unfold JS at j;cases p:o.op<;>rw[p]at h j<;>simp only[qt]at h<;>try grind
 case alloc=>obtain⟨z,g,i,l,r⟩:=h;rw[<-r];exact .push _ _
 case box =>
  obtain⟨g,i⟩:=h;simp only at j;rw[if_pos j]at i;rw[<-i.2];exact .push _ _
 case makeSlice =>
  obtain⟨z,g,i,l⟩:=h;rw[<-l];unfold uT at g;split at g
  .split at g
   .split at g
    .simp only[qj]at g
     rw[<-g];exact .push _ _
    grind
   grind
  grind
 case makeMap=>obtain⟨t,g,i⟩:=h;rw[<-i];exact .push _ _
end
end Go.Ev
namespace Go.Ev
open Go Go.RowKit
section
variable {o:wx}
theorem WN{pl:Pol}(h:reads pl o=true):memW pl o=false:=by
 simp_all[reads,qi]
theorem nc{pl:Pol}(h:reads pl o=true):memR o=true:=by
 unfold reads at h;rw[qi]at h;exact h.1
theorem ng{pl:Pol}(h:memW pl o=true):reads pl o=false:=by
 unfold reads;rw[h];simp
theorem nh{pl:Pol}{a b:wx}(h:reads pl a=false):soft pl a b=false:=by
 unfold soft;rw[h];simp only[Bool.false_and,Bool.or_false]
 grind [reads,memR,memW,absurd]
theorem nj{P:qf}{pl:Pol}{a b:wx}(h:soft pl a b=true){ev ev':uk->AV}{mu m:Mu}{v l:AV}(g:DS P pl b ev' mu l m)(i:DS P pl a ev mu v mu):DS P pl a ev m v m:=by
 unfold soft at h;rw[vL]at h;rcases h with h|h
 .split at h
  .rename_i t U ko t' o p r C
   have I:=beq_iff_eq.1 h;subst I;unfold DS at *
   rw[r]at i⊢;rw[C]at g;simp only[qt]at i g⊢;obtain⟨z,J,R,_⟩:=i;obtain⟨y,T,_,j⟩:=g;obtain⟨y1,y2⟩:=y;simp only at j;subst j;exact⟨z,gE T J,R,by first|rfl|trivial⟩
  grind
 .rw [qi]at h
  exact i.le h.1 (g.push h.2)
section
variable (P:qf) (pl:Pol) (ops:Array wx)
def yH(st:St)(o:wx)(g:St):Prop:=
 ∃ b,zp ops st o=some b/\(b=true->∃ v m,DS P pl o st.ev st.mu v m/\g=st.put o.dst v m)/\(b=false->g=st.put o.dst (.sc vd) st.mu)
theorem JU{Q:St->Prop}{r:AV->St->Prop}:∀(l:List wx) (st:St),awpS P pl true ops l Q r st ->
  ∃ g:Nat->St,g 0=st/\Q (g l.length)/\∀(i:Nat) (o:wx),l[i]?=some o->yH P pl ops (g i) o (g (i+1)):=by
 intro l;induction l with
 |nil=>intro st h;exact⟨fun _=>st,rfl,h,zSp⟩
 |cons o l C =>
  intro st h;obtain⟨b,t,I,J⟩:=h;have key:∀ j:St,awpS P pl true ops l Q r j->yH P pl ops st o j->∃ g:Nat->St,g 0=st/\Q (g (o :: l).length)/\∀(i:Nat) (x:wx),(o :: l)[i]?=some x->yH P pl ops (g i) x (g (i+1)):=by
   intro j p R;obtain⟨g,e0,T,hs⟩:=C j p;refine⟨fun i=>match i with|0=>st|k+1=>g k,rfl,T,fun i x hx=>?_⟩
   grind
  cases b with
  |true =>
   obtain⟨v,m,U,hk⟩:=qt.det (I rfl);exact key _ hk ⟨true,t,fun _=>⟨v,m,U,rfl⟩,fun h=>absurd h zSp⟩
  |false=>exact key _ (J rfl) ⟨false,t,fun h=>absurd h zSp,fun _=>rfl⟩
variable (po:Array wx)
def y6(k:Nat):Option Tmp:=(po[k]?).bind (·.dst)
def wAt(k:Nat):Bool:=(po[k]?).any (memW pl)
def Sst(g:Nat->St)(S:List Nat):Nat->St
 | 0=>g 0
 |k+1=>if k∈S then ⟨fun t=>if y6 po k=some t then (g (k+1)).tm t else (Sst g S k).tm t,if wAt pl po k=true then (g (k+1)).mu else (Sst g S k).mu⟩ else Sst g S k
variable {P pl ops po}
theorem yy{st:St}{d:Option Tmp}{v:AV}{m:Mu}{t:Tmp}(h:d≠some t):(st.put d v m).tm t=st.tm t:=by
 cases d with
 |none=>rfl
 |some d =>
  simp only[St.put]
  grind
theorem yH.frame{st g:St}(h:yH P pl ops st o g){t:Tmp}(i:o.dst≠some t):g.tm t=st.tm t:=by
 obtain⟨b,_,l,j⟩:=h;cases b with
 |true=>grind [yy]
 |false=>rw[j rfl];exact yy i
theorem yH.mem{st g:St}(h:yH P pl ops st o g)(i:memW pl o=false):g.mu=st.mu:=by
 obtain⟨b,_,j,l⟩:=h;cases b with
 |true=>obtain⟨v,m,p,rfl⟩:=j rfl;exact(p.mem i).1
 |false=>rw[l rfl];rfl
variable {stf:Nat->St}
theorem nn(j:∀(i:Nat) (o:wx),po[i]?=some o->yH P pl ops (stf i) o (stf (i+1))){k:Nat}(l:k<po.size){t:Tmp}(h:y6 po k≠some t):(stf (k+1)).tm t=(stf k).tm t:=by
 have g:po[k]?=some po[k]:=zP1 l;exact(j k _ g).frame (by unfold y6 at h;rw[g]at h;exact h)
theorem WO(j:∀(i:Nat) (o:wx),po[i]?=some o->yH P pl ops (stf i) o (stf (i+1))){k:Nat}(l:k<po.size)(h:wAt pl po k=false):(stf (k+1)).mu=(stf k).mu:=by
 have g:po[k]?=some po[k]:=zP1 l;exact(j k _ g).mem (by unfold wAt at h;rw[g]at h;exact h)
theorem JV(l:∀(i:Nat) (o:wx),po[i]?=some o->yH P pl ops (stf i) o (stf (i+1)))(S:List Nat)(t:Tmp)(j:Nat)(r:∀ k,k<j->y6 po k=some t->k∈S)(C:∀ k,j<=k->k<po.size->y6 po k=some t->k ∉ S) :
  ∀ m,m<=po.size->(Sst pl po stf S m).tm t=(stf (min m j)).tm t:=by
 intro m;induction m with
 |zero=>intro _;simp[Sst]
 |succ m g =>
  intro I;have g:=g zOm;simp only[Sst];by_cases p:y6 po m=some t
  .grind
  .have e:(if m∈S then (⟨fun t=>if y6 po m=some t then (stf (m+1)).tm t else (Sst pl po stf S m).tm t,if wAt pl po m=true then (stf (m+1)).mu else (Sst pl po stf S m).mu⟩:St) else Sst pl po stf S m).tm t=(Sst pl po stf S m).tm t:=by
    grind
   rw[e,g];by_cases J:m<j
   .rw [Nat.min_eq_left zOm,Nat.min_eq_left zOm,nn l zOm p]
   grind
theorem ZM(l:∀(i:Nat) (o:wx),po[i]?=some o->yH P pl ops (stf i) o (stf (i+1)))(S:List Nat)(j:Nat)(r:∀ k,k<j->wAt pl po k=true->k∈S)(C:∀ k,j<=k->k<po.size->wAt pl po k=true->k ∉ S) :
  ∀ m,m<=po.size->(Sst pl po stf S m).mu=(stf (min m j)).mu:=by
 intro m;induction m with
 |zero=>intro _;simp[Sst]
 |succ m g =>
  intro I;have g:=g zOm;simp only[Sst];by_cases p:wAt pl po m=true
  .grind
  .have e:(if m∈S then (⟨fun t=>if y6 po m=some t then (stf (m+1)).tm t else (Sst pl po stf S m).tm t,if wAt pl po m=true then (stf (m+1)).mu else (Sst pl po stf S m).mu⟩:St) else Sst pl po stf S m).mu=(Sst pl po stf S m).mu:=by
    grind
   rw[e,g];by_cases J:m<j
   .rw [Nat.min_eq_left zOm,Nat.min_eq_left zOm,WO l zOm (zUs p)]
   grind
theorem nq(S:List Nat)(t:Tmp)(j:Nat)(g:y6 po j≠some t):∀ m,(Sst pl po stf (S++[j]) m).tm t=(Sst pl po stf S m).tm t:=by
 intro m;induction m with
 |zero=>rfl
 |succ m i =>
  simp only[Sst];by_cases l:m∈S
  .grind
  grind
theorem nr(S:List Nat)(j:Nat)(g:wAt pl po j=false):∀ m,(Sst pl po stf (S++[j]) m).mu=(Sst pl po stf S m).mu:=by
 intro m;induction m with
 |zero=>rfl
 |succ m i =>
  simp only[Sst];by_cases l:m∈S
  .grind
  grind
def OrdC(pl:Pol)(ops po:Array wx)(L:List Nat):Prop:=∀(i k:Nat) x y,i<k->po[i]?=some x->po[k]?=some y->zB pl ops x y=true->Bef L i k
theorem JW(hs:∀(i:Nat) (o:wx),po[i]?=some o->yH P pl ops (stf i) o (stf (i+1))){ro:Ro}{G0:Gh}{al:Mu}{w0:j2}{n:Nat}(s0:Sim G0 al w0.heap)(b0:Nat->Nat)(b1:∀ k,k<po.size->ops[b0 k]?=po[k]?)(b2:(po.toList.all fun o=>dOk n o.dst)=true){QQ:Exit->Act->j2->Prop}
    (hQ:∀ a w G,Rel ro G0 al w0 n G (stf po.size) a w->QQ .normal a w) :
    ∀(post pre:List Nat) (a:Act) (w:j2) (G:Gh),OrdC pl ops po (pre++post)->(pre++post).length=po.size->(∀ k,k∈pre++post->k<po.size)->(pre++post).Nodup ->
      Rel ro G0 al w0 n G (Sst pl po stf pre po.size) a w->wpOpsIn (WF ro) 0 P ops QQ (post.map b0) a w:=by
  intro post;induction post with
  |nil =>
    intro pre a w G ht a7 a9 aa r;simp only[zA]at ht a7 a9 aa;simp only[List.map_nil,wpOpsIn];refine hQ a w G ?_;have ai:∀ i,i<po.size->i∈pre:=by
      intro i hi;refine yR fun h=>?_
      have h1:(i :: pre).length<=(qm po.size).length:=jv (vj.2 ⟨h,aa⟩) (fun k hk=>by
        grind)
      simp at h1;omega
    have e:Sst pl po stf pre po.size=stf po.size:=by
      have e1:(Sst pl po stf pre po.size).tm=(stf po.size).tm:=by
        funext t;rw[JV hs pre t po.size (fun k hk _=>ai k hk) (fun k h1 h2 _=>absurd h2 zOm) po.size (qr _),Nat.min_self]
      have e2:(Sst pl po stf pre po.size).mu=(stf po.size).mu:=by
        rw[ZM hs pre po.size (fun k hk _=>ai k hk) (fun k h1 h2 _=>absurd h2 zOm) po.size (qr _),Nat.min_self]
      cases hq:Sst pl po stf pre po.size;simp_all
    rw[<-e];exact r
  |cons j post ih =>
    intro pre a w G ht a7 a9 aa r;have hj:j<po.size:=a9 j zSp;have ag:j ∉ pre:=fun h=>by
      grind
    have ho:po[j]?=some po[j]:=zP1 hj;generalize cl:po[j]=o at ho;have b3:dOk n o.dst=true:=qu.1 b2 o (by grind)
    have C:∀(k:Nat) (x:wx),k<j->po[k]?=some x->zB pl ops x o=true->k∈pre:=fun k x hk l hc=>ht k j x o hk l ho hc pre post rfl
    have ab:∀(i k:Nat) (x y:wx),i<k->po[i]?=some x->po[k]?=some y->zB pl ops x y=true->k∈pre->i∈pre:=by
      intro i k x y bi l hy hc hk;obtain⟨p,q,e⟩:=List.append_of_mem hk;have:=ht i k x y bi l hy hc p (q++j :: post) (by rw[e];simp);rw[e];simp[this]
    have after:∀(k:Nat) (x:wx),j<k->po[k]?=some x->zB pl ops o x=true->k ∉ pre:=fun k x hk l hc bj=>ag (ab j k o x hk ho l hc bj)
    have a0:∀ k t,y6 po k=some t->∃ x,po[k]?=some x/\x.dst=some t:=by
      intro k t h;unfold y6 at h;cases l:po[k]? with
      |none=>rw[l]at h;exact absurd h zSp
      |some x=>rw[l]at h;exact⟨x,rfl,h⟩
    have a1:∀ k,wAt pl po k=true->∃ x,po[k]?=some x/\memW pl x=true:=by
      intro k h;unfold wAt at h;cases l:po[k]? with
      |none=>rw[l]at h;exact absurd h zSp
      |some x=>rw[l]at h;exact⟨x,rfl,h⟩
    have cm:∀ k (x:wx),po[k]?=some x->j<=k->k≠j->j<k:=fun k x _ h1 h2=>zOm
    have aj:∀ t,t∈vt ops o->(Sst pl po stf pre po.size).tm t=(stf j).tm t:=by
      intro t b4;rw[JV hs pre t j ?_ ?_ po.size (qr _),Nat.min_eq_right zOm]
      · intro k hk U
        obtain⟨x,l,a3⟩:=a0 k t U;exact C k x hk l (by simp[zB,a3,b4])
      · intro k an ao U
        by_cases a4:k=j
        · subst a4;exact ag
        · obtain⟨x,l,a3⟩:=a0 k t U
          exact after k x zOm l (by simp[zB,a3,b4])
    have ak:(memW pl o||memR o)=true->reads pl o=false->(Sst pl po stf pre po.size).mu=(stf j).mu:=by
      intro T bk;rw[ZM hs pre j ?_ ?_ po.size (qr _),Nat.min_eq_right zOm]
      · intro k hk U
        obtain⟨x,l,I⟩:=a1 k U;refine C k x hk l ?_;simp only[zB,I,T,Bool.and_self,Bool.true_or]
      · intro k an ao U
        by_cases a4:k=j
        · subst a4;exact ag
        · obtain⟨x,l,I⟩:=a1 k U
          refine after k x zOm l ?_;have bl:=nh (b:=x) bk;simp only[zB,I,bl,Bool.true_or,Bool.and_true,Bool.not_false];simp only[vL]at T⊢;rcases T with T|T
          · exact .inl (.inl (.inl T))
          · exact .inl (.inl (.inr T))
    have ah:reads pl o=true->∀(ev:uk->AV) v m,DS P pl o ev (stf j).mu v m->DS P pl o ev (Sst pl po stf pre po.size).mu v (Sst pl po stf pre po.size).mu:=by
      intro a5 ev v m aq;have b5:memW pl o=false:=WN a5;have b6:memR o=true:=nc a5;have bef:∀ k,k<j->wAt pl po k=true->k∈pre:=by
        intro k hk U;obtain⟨x,l,I⟩:=a1 k U;refine C k x hk l ?_;simp only[zB,I,b6,Bool.or_true,Bool.and_self,Bool.true_or]
      obtain⟨J,bm,cn,b7,bn⟩:∃ J,j<=J/\J<=po.size/\(∀ k,k<J->wAt pl po k=true->k∈pre)/\(∀ k,J<=k->k<po.size->wAt pl po k=true->k ∉ pre):=by
        have down:∀ d,d<=po.size-j->(∀ k,po.size-d<=k->k<po.size->wAt pl po k=true->k ∉ pre) \/
            ∃ J,j<=J/\J<=po.size/\(∀ k,k<J->wAt pl po k=true->k∈pre)/\(∀ k,J<=k->k<po.size->wAt pl po k=true->k ∉ pre):=by
          intro d;induction d with
          |zero=>intro _;exact .inl (fun k h1 h2 _=>absurd h2 zOm)
          |succ d bo =>
            intro U;rcases bo zOm with h|h
            · by_cases hw:wAt pl po (po.size-(d+1))=true/\(po.size-(d+1))∈pre
              · obtain⟨bq,b8⟩:=hw
                refine .inr ⟨po.size-d,zOm,zOm,fun k hk br=>?_,fun k h1 h2 h3=>h k h1 h2 h3⟩;by_cases ar:k=po.size-(d+1)
                · rw[ar];exact b8
                · obtain⟨x,l,I⟩:=a1 k br
                  obtain⟨y,hy,bs⟩:=a1 _ bq;exact ab k _ x y zOm l hy (by simp only[zB,I,bs,Bool.true_or,Bool.and_self]) b8
              · refine .inl (fun k h1 h2 h3 h4=>?_)
                by_cases ar:k=po.size-(d+1)
                · rw[ar]at h3 h4;exact hw ⟨h3,h4⟩
                · exact h k zOm h2 h3 h4
            · exact .inr h
        rcases down (po.size-j) (qr _) with h|h
        · exact⟨j,qr _,zOm,bef,fun k h1 h2 h3=>h k zOm h2 h3⟩
        · exact h
      have bt:(Sst pl po stf pre po.size).mu=(stf J).mu:=by
        rw[ZM hs pre J b7 bn po.size (qr _),Nat.min_eq_right zOm]
      have chain:∀ R,j<=R->R<=J->∀ v m,DS P pl o ev (stf j).mu v m->DS P pl o ev (stf R).mu v (stf R).mu:=by
        intro R;induction R with
        | zero =>
                  intro h1 _ v m h;have:j=0:=zOm;subst this;have:=(h.mem b5).1;rw[this]at h;exact h
        |succ R bu =>
          intro h1 h2 v m h;by_cases he:j=R+1
          · rw[<-he];have:=(h.mem b5).1;rw[this]at h;exact h
          · have a6:=bu zOm zOm v m h
            by_cases hw:wAt pl po R=true
            · have au:=b7 R zOm hw
              obtain⟨x,l,I⟩:=a1 R hw;have cp:j≠R:=fun e=>by rw[<-e]at au;exact ag au
              have av:soft pl o x=true:=by
                refine Decidable.byContradiction fun b9=>after R x zOm l ?_ au
                simp only[zB,b6,I,Bool.not_eq_true]at b9⊢;simp[b9]
              obtain⟨b',cq,bb,bc⟩:=hs R x l;cases b' with
              |true =>
                obtain⟨v',m2,bv,be⟩:=bb rfl;rw[be];have:((stf R).put x.dst v' m2).mu=m2:=by cases x.dst<;>rfl
                rw[this];exact nj av bv a6
              | false =>
                         rw[bc rfl];have:((stf R).put x.dst (.sc vd) (stf R).mu).mu=(stf R).mu:=by cases x.dst<;>rfl
                         rw[this];exact a6
            · have:=WO hs (k:=R) zOm (zUs hw)
              rw[this];exact a6
      rw[bt];exact chain J bm (qr _) v m aq
    have aw:∀ t,o.dst=some t->(Sst pl po stf (pre++[j]) po.size).tm t=(stf (j+1)).tm t:=by
      intro t a2;rw[JV hs (pre++[j]) t (j+1) ?_ ?_ po.size (qr _),Nat.min_eq_right zOm]
      · intro k hk U
        by_cases a4:k=j
        · subst a4;simp
        · obtain⟨x,l,a3⟩:=a0 k t U
          exact qR.2 (.inl (C k x zOm l (by simp[zB,a3,a2])))
      · intro k an ao U ax
        obtain⟨x,l,a3⟩:=a0 k t U;rcases qR.1 ax with h|h
        · exact after k x zOm l (by simp[zB,a3,a2]) h
        · simp at h;omega
    have ay:memW pl o=true->(Sst pl po stf (pre++[j]) po.size).mu=(stf (j+1)).mu:=by
      intro T;rw[ZM hs (pre++[j]) (j+1) ?_ ?_ po.size (qr _),Nat.min_eq_right zOm]
      · intro k hk U
        by_cases a4:k=j
        · subst a4;simp
        · obtain⟨x,l,I⟩:=a1 k U
          exact qR.2 (.inl (C k x zOm l (by simp[zB,I,T])))
      · intro k an ao U ax
        obtain⟨x,l,I⟩:=a1 k U;rcases qR.1 ax with h|h
        · exact after k x zOm l (by simp[zB,I,T]) h
        · simp at h;omega
    have bw:y6 po j=o.dst:=by unfold y6;rw[ho];rfl
    have ca:wAt pl po j=memW pl o:=by unfold wAt;rw[ho];rfl
    have ad:∀(v:AV) (m:Mu),(∀ t,o.dst=some t->v=(stf (j+1)).tm t)->(memW pl o=true->m=(stf (j+1)).mu)->(memW pl o=false->m=(Sst pl po stf pre po.size).mu) ->
        (Sst pl po stf pre po.size).put o.dst v m=Sst pl po stf (pre++[j]) po.size:=by
      intro v m h1 h2 h3;have e1:((Sst pl po stf pre po.size).put o.dst v m).tm=(Sst pl po stf (pre++[j]) po.size).tm:=by
        funext t;by_cases a2:o.dst=some t
        · rw[aw t a2,<-h1 t a2,a2];simp[St.put]
        · rw[yy a2,nq pre t j (by rw[bw];exact a2)]
      have e2:((Sst pl po stf pre po.size).put o.dst v m).mu=(Sst pl po stf (pre++[j]) po.size).mu:=by
        cases T:memW pl o with
        |true=>rw[ay T];exact h2 T
        |false=>rw[nr pre j (by rw[ca];exact T)];exact h3 T
      cases hq:(Sst pl po stf pre po.size).put o.dst v m;cases cb:Sst pl po stf (pre++[j]) po.size;rw[hq,cb]at e1 e2;simp only at e1 e2;rw[e1,e2]
    obtain⟨b,hb,cc,cd⟩:=hs j o ho;have cf:zp ops (Sst pl po stf pre po.size) o=some b:=by
      rw[<-hb];unfold zp;cases hg:o.guard with
      |none=>rfl
      |some q =>
        obtain⟨k,ck⟩:=q;simp only;cases U:(ops[k]?).bind (·.dst) with
        |none=>rfl
        |some d =>
          simp only;rw[aj d (by simp[vt,hg,U])]
    have az:=ZJ r cf;have ae:∀{st:St} {v:AV} {m:Mu} {t:Tmp},o.dst=some t->(st.put o.dst v m).tm t=v:=by
      intro st v m t h;rw[h];simp[St.put]
    simp only[List.map_cons,wpOpsIn,b1 j hj,ho,az];cases b with
    |false =>
      rw[if_neg zSp];have af:=cd rfl;have e:=ad (.sc vd) (Sst pl po stf pre po.size).mu (fun t h=>by rw[af];exact(ae h).symm) (fun h=>by rw[af,ak (zP1 h) (ng h)];rfl) (fun _=>rfl);refine⟨fun _ _=>trivial,ih (pre++[j]) _ _ G (zUs ht) (zUs a7) (zUs a9) (zUs aa) ?_⟩;rw[<-e];exact r.put s0 (Stp.refl r.stp.sim) (.sc _ rfl) b3
    |true =>
      rw[if_pos rfl];obtain⟨v,m,aq,af⟩:=cc rfl;have bg:∀ x,x∈o.op.operands->(stf j).ev x=(Sst pl po stf pre po.size).ev x:=by
        intro x l;cases x with
        |tmp t =>
          refine(aj t ?_).symm;simp only[vt,JR,qR,List.mem_filterMap];exact .inl ⟨.tmp t,zUs l,rfl⟩
        |const v=>rfl
        |global g=>rfl
        |func f=>rfl
      have a8:=aq.congr bg;have:∃ R,DS P pl o (Sst pl po stf pre po.size).ev (Sst pl po stf pre po.size).mu v R/\(memW pl o=true->R=m)/\(memW pl o=false->R=(Sst pl po stf pre po.size).mu):=by
        by_cases a5:reads pl o=true
        · exact⟨_,ah a5 _ _ _ a8,fun h=>by rw[WN a5]at h;exact absurd h zSp,fun _=>rfl⟩
        simp only[Bool.not_eq_true]at a5;by_cases T:(memW pl o||memR o)=true
        · rw[ak T a5]
          refine⟨m,a8,fun _=>rfl,fun h=>(a8.mem h).1⟩
        · simp only[vL,not_or,Bool.not_eq_true]at T
          exact⟨_,(a8.mem T.1).2 T.2 _,fun h=>by rw[T.1]at h;exact absurd h zSp,fun _=>rfl⟩
      obtain⟨R,cg,ch,cj⟩:=this;have e:=ad v R (fun t h=>by rw[af];exact(ae h).symm) (fun h=>by rw[ch h,af];rfl) cj;refine ZI r.stp.sim r.ev cg ?_ ?_
      · rintro v' cr G' w' u ⟨rfl,rfl⟩ bh hv
        refine ih (pre++[j]) _ _ G' (zUs ht) (zUs a7) (zUs a9) (zUs aa) ?_;rw[<-e];exact r.put s0 bh hv b3
      · intro _ _ _ _ _ h;exact h.elim
end
end
section
variable {ops:Array wx}{pl:Pol}{P:qf}
theorem JY{i:Array wx}{g:Nat->St}:∀ m,Sst pl i g [] m=g 0:=by
 intro m;induction m with
 |zero=>rfl
 |succ m j=>simp_all[Sst]
theorem WP{ro:Ro}{C:Gh}{g:Mu}{I:j2}{n:Nat}(U:Sim C g I.heap)(j:(ops.toList.all fun o=>dOk n o.dst)=true)
  {Q:St->Prop} {Qp:AV->St->Prop} {QQ:Exit->Act->j2->Prop} (hQ:∀ st a w G,Q st->Rel ro C g I n G st a w->QQ .normal a w) {st:St} {a:Act} {w:j2} {G:Gh} (r:Rel ro C g I n G st a w)
  (L:List Nat) (l:L.length=ops.size) (J:∀ k,k∈L->k<ops.size) (R:L.Nodup) (p:OrdC pl ops ops L)
  (h:awpS P pl true ops ops.toList Q Qp st):wpOpsIn (WF ro) 0 P ops QQ L a w:=by
 obtain⟨t,e0,hq,hs⟩:=JU P pl ops ops.toList st h;have T:∀(i:Nat) (o:wx),ops[i]?=some o->yH P pl ops (t i) o (t (i+1)):=fun i o ho=>hs i o (zUs ho)
 have:=JW T U (fun i=>i) (fun k _=>rfl) j (fun a w G r=>hQ _ a w G (zUs hq) r) L [] a w G p l J R (by rw[JY,e0];exact r);simpa using this
theorem nu{F:Fence}{n:Nat}{o:wx}{a:Act}{K t:Act->j2->Prop}{Q j:Exit->Act->j2->Prop}{g:Result Next}(i:∀ a w,K a w->t a w)(T:∀ C a w,Q (.panic C) a w->j (.panic C) a w)(ho:LetsOut Q->LetsOut j)
  (h:o.uponIn F n P a K Q g):o.uponIn F n P a t j g:=by
 cases g with
 |halt p w=>cases p<;>first|exact h.elim|exact T _ _ _ h
 |ok U w =>
  cases U
  case value v=>exact i _ _ h
  case skip=>exact i _ _ h
  case defer d=>exact i _ _ h
  case enter f args =>
   refine⟨h.1,h.2.1,fun cs r=>?_⟩;obtain⟨e,w',fr,hR,I⟩:=h.2.2 cs r
   grind
  case row row args=>exact⟨h.1,h.2.mono fun _ _ r=>i _ _ r⟩
  case round l f J a0 R =>
   refine⟨h.1,RoundIn.mono h.2 fun e w' hR=>?_⟩
   grind
  all_goals exact h.elim
theorem ZN{F:Fence}{n:Nat}{QQ:Exit->Act->j2->Prop}:∀(j g:List Nat) (a:Act) (w:j2),wpOpsIn F n P ops (Exit.then (wpOpsIn F n P ops QQ g) QQ) j a w->wpOpsIn F n P ops QQ (j++g) a w
 | [],g,a,w,h=>h
 |i :: j,g,a,w,h=>by
  simp only[wpOpsIn,yS]at h⊢;cases r:ops[i]? with
  |none =>
   rw[r]at h;exact ZN j g a w h
  |some o =>
   rw[r]at h;simp only at h⊢;split
   .rename_i l
    rw[if_pos l]at h;exact⟨h.1,nu (fun a w t=>ZN j g a w t) (fun C a w p=>p) (fun⟨a,w,p⟩=>⟨a,w,p⟩) h.2⟩
   .rename_i l
    rw[if_neg l]at h;exact⟨h.1,ZN j g _ w h.2⟩
theorem WQ(n:Nat):∀(d:Nat) (L:List Nat),L.length=n+d->(∀ k,k∈L->k<n+d)->L.Nodup->(∀ j,n<=j->j<n+d->∀ i,i<j->Bef L i j)->∃ C,L=C++List.range' n d/\C.length=n
 | 0,L,o,_,_,_=>⟨L,zSp,zUs o⟩
 |d+1,L,o,T,r,R=>by
  have g:∀ i,i<n+(d+1)->i∈L:=by
   intro i t;refine yR fun h=>?_
   have o:(i :: L).length<=(qm (n+(d+1))).length:=jv (vj.2 ⟨h,r⟩) (fun k l=>by
    grind)
   simp at o;omega
  obtain⟨p,q,e⟩:=List.append_of_mem (g (n+d) zOm);have U:∀ i,i<n+d->i∈p:=fun i t=>R (n+d) zOm zOm i t p q e
  have a0:n+d<=p.length:=by
   have:(qm (n+d)).length<=p.length:=jv List.nodup_range (fun k l=>U k (zUs l));simpa using this
  have hq:q=[]:=by
   have:=congrArg List.length e;simp at this;exact jt zOm
  subst hq;rw[e]at r;have I:p.Nodup:=(Zt.1 r).1;have J:n+d ∉ p:=fun h=>(Zt.1 r).2.2 _ h _ zSp rfl
  obtain⟨C,a1,a2⟩:=WQ n d p (by grind) (fun k l=>by
   have:=T k (by rw[e];simp[l]);have a3:k≠n+d:=fun h=>J (h ▸ l)
   omega) I (fun j P a4 i t pre post e2=>by
   refine R j P zOm i t pre (post++[n+d]) ?_;rw[e,e2];simp)
  grind [List.range'_concat]
def JZ(pl:Pol)(ops:Array wx)(n:Nat):Bool:=
 yb ops&&decide (n<=ops.size)&&(let g:=jw ops.toList [];(qm ops.size).all fun j=>(qm j).all fun i=>(if n<=j then (g.getD j 0).testBit i else
  match ops[i]?,ops[j]? with|some a,some b=>!zB pl ops a b||(g.getD j 0).testBit i|_,_=>true))
def jx:Nat->wx->List wx->List wx
 |d+1,x,y :: l=>y :: jx d x l
 |_,x,l=>x :: l
def y7:Nat->Nat->List wx->List wx
 | 0,d,x :: l=>jx d x l
 |n+1,d,x :: l=>x :: y7 n d l
 |_,_,[]=>[]
def mvI(a b k:Nat):Nat:=if k<a then k else if k<b then k+1 else if k=b then a else k
def mvP(a b i:Nat):Nat:=if i<a then i else if i=a then b else if i<=b then i-1 else i
theorem nv{a b:Nat}(h:a<=b)(k:Nat):mvI a b (mvP a b k)=k:=by
 unfold mvP;split
 .unfold mvI;rw[if_pos ‹_›]
 .split
  .unfold mvI;rw[zIn,zIn,if_pos rfl];omega
  .split
   .unfold mvI;rw[zIn,if_pos zOm];omega
   .unfold mvI;rw[zIn,zIn,zIn]
theorem ny{a b:Nat}(h:a<=b)(k:Nat):mvP a b (mvI a b k)=k:=by
 unfold mvI;split
 .unfold mvP;rw[if_pos ‹_›]
 .split
  .unfold mvP;rw[zIn,zIn,if_pos zOm];omega
  .split
   .unfold mvP;rw[zIn,if_pos rfl];omega
   .unfold mvP;rw[zIn,zIn,zIn]
theorem WR:∀(d:Nat) (x:wx) (l:List wx),(jx d x l).length=l.length+1
 | 0,x,l=>by simp[jx]
 |d+1,x,[]=>by simp[jx]
 |d+1,x,y :: l=>by simp[jx,WR d x l]
theorem WS:∀(d:Nat) (x:wx) (l:List wx) (k:Nat),d<=l.length->(jx d x l)[k]?=if k<d then l[k]? else if k=d then some x else l[k-1]?
 | 0,x,l,k,h=>by
  cases k with
  |zero=>simp[jx]
  |succ k=>simp[jx]
 |d+1,x,[],k,h=>by simp at h
 |d+1,x,y :: l,k,h=>by
  cases k with
  |zero=>simp[jx]
  |succ k =>
   simp only[jx,vh];rw[WS d x l k (zUs h)];by_cases g:k<d
   .simp [g]
   .by_cases i:k=d
    .simp [i]
    .obtain ⟨m,rfl⟩:∃ m,k=m+1:=⟨k-1,zOm⟩
     simp[g,i]
theorem J0:∀(a d:Nat) (l:List wx),(y7 a d l).length=l.length
 | 0,d,x :: l=>by simp[y7,WR]
 |n+1,d,x :: l=>by simp[y7,J0 n d l]
 | 0,d,[]=>rfl
 |n+1,d,[]=>rfl
theorem WT:∀(a d:Nat) (l:List wx) (k:Nat),a+d<l.length->(y7 a d l)[k]?=l[mvI a (a+d) k]?
 | 0,d,[],k,h=>by simp at h
 |n+1,d,[],k,h=>by simp at h
 | 0,d,x :: l,k,h=>by
  simp only[y7];rw[WS d x l k (by simp at h;omega)];unfold mvI;by_cases g:k<d
  .simp [g]
  .by_cases i:k=d
   .simp [i]
   .obtain ⟨m,rfl⟩:∃ m,k=m+1:=⟨k-1,zOm⟩
    simp[g,i]
 |n+1,d,x :: l,k,h=>by
  cases k with
  |zero=>simp[y7,mvI]
  |succ k =>
   simp only[y7,vh];rw[WT n d l k (by simp at h;omega)];have:mvI (n+1) (n+1+d) (k+1)=mvI n (n+d) k+1:=by
    unfold mvI;rw[show n+1+d=n+d+1 by omega];simp only[Nat.add_lt_add_iff_right,Nat.add_right_cancel_iff];split
    .rfl
    .split
     .rfl
     .split<;>rfl
   rw[this,vh]
def WU(P:qf)(pl:Pol)(ops:Array wx)(Q:St->Prop)(g:AV->St->Prop)(st:St):Prop:=
 (uZ pl ops=true/\awpS P pl true ops ops.toList Q g st) \/
 (∃ n,JZ pl ops n=true/\awpS P pl true ops (ops.toList.take n) (fun st=>awpS P pl false ops (ops.toList.drop n) Q g st) g st) \/
 (∃ a d,JT pl ops a (a+d)=true/\0<d/\a+d<ops.toList.length/\awpS P pl true ops ops.toList Q g st/\awpS P pl true ops (y7 a d ops.toList) Q g st)
theorem nz{ro:Ro}{G0:Gh}{a6:Mu}{w0:j2}{n:Nat}(s0:Sim G0 a6 w0.heap)(J:(ops.toList.all fun o=>dOk n o.dst)=true)
  {Q:St->Prop} {Qp:AV->St->Prop} {QQ:Exit->Act->j2->Prop} (hQ:∀ st a w G,Q st->Rel ro G0 a6 w0 n G st a w->QQ .normal a w)
  (ah:∀ v st a w G u,Qp v st->Rel ro G0 a6 w0 n G st a w->VRel G w.heap v u->QQ (.panic [{ v:=u,recovered:=false }]) a w) {st:St} {a:Act} {w:j2} {G:Gh} (r:Rel ro G0 a6 w0 n G st a w)
  (h:WU P pl ops Q Qp st) (C:Bool) (t:Nat):wpOpsIn (WF ro) 0 P ops QQ (Region.schedule C ops t) a w:=by
 have a4:∀(l:yb ops=true),Topo ops (Region.schedule C ops t)/\(Region.schedule C ops t).length=ops.size/\(∀ k,k∈Region.schedule C ops t->k<ops.size)/\(Region.schedule C ops t).Nodup:=by
  intro l;obtain⟨h1,h2⟩:=WD l C t;obtain⟨h3,h4⟩:=s5 l _ _ rfl h1;exact⟨h1,h2,fun k I=>(h3 k I).1,h4⟩
 rcases h with ⟨U,h⟩|⟨m,U,hA⟩|⟨g,d,U,hd,a7,hA,hB⟩
 .obtain ⟨l,T⟩:=gV U
  obtain⟨h1,h2,h3,h4⟩:=a4 l;exact WP s0 J hQ r _ h2 h3 h4 (fun i k x y a2 hx hy hc=>h1.bef l (T i k x y a2 hx hy hc)) h
 .unfold JZ at U
  rw[qi,qi,decide_eq_true_eq]at U;obtain⟨⟨l,ax⟩,T⟩:=U;obtain⟨h1,h2,h3,h4⟩:=a4 l;generalize Region.schedule C ops t=L at *
  simp only[qu,zY]at T;have ai:∀ j,m<=j->j<m+(ops.size-m)->∀ i,i<j->Bef L i j:=by
   intro j aj ay i hi;have:=T j zOm i hi;rw[if_pos aj]at this;exact h1.bef l this
  obtain⟨L1,hL,ak⟩:=WQ m (ops.size-m) L zOm (fun k I=>zW1 (h3 k I)) h4 ai;have ab:L1.Nodup:=by rw[hL]at h4;exact(Zt.1 h4).1
  have ad:∀ k,k∈L1->k<m:=by
   intro k I;have az:=h3 k (by rw[hL];simp[I]);refine yR fun b0=>?_
   rw[hL]at h4;exact(Zt.1 h4).2.2 k I k (by simp[List.mem_range'];exact⟨k-m,zOm,zOm⟩) rfl
  rw[hL];refine ZN L1 _ a w ?_;obtain⟨a3,e0,hq,hs⟩:=JU P pl ops (ops.toList.take m) st hA;have a1:(ops.toList.take m).toArray.size=m:=zSo;have R:∀ k,k<m->(ops.toList.take m).toArray[k]?=ops[k]?:=by
   intro k I;simp[I]
  have aa:∀(i:Nat) (o:wx),(ops.toList.take m).toArray[i]?=some o->yH P pl ops (a3 i) o (a3 (i+1)):=fun i o ho=>hs i o (zUs ho)
  have key:=JW (QQ:=Exit.then (wpOpsIn (WF ro) 0 P ops QQ (List.range' m (ops.size-m))) QQ) aa s0 (fun i=>i) (fun k I=>(R k zOm).symm) ?_ (fun a w G r=>?_) L1 [] a w G ?_ (by simpa[a1] using ak) (fun k I=>by rw[a1];exact ad k (zUs I)) (zUs ab) (by rw[JY,e0];exact r)
  .simpa using key
  .rw [qu]at J⊢
   intro o ho;exact J o (List.mem_of_mem_take (zUs ho))
  .have al:awpS P pl false ops (ops.toList.drop m) Q Qp (a3 (ops.toList.take m).toArray.size):=by simpa using hq
   have ae:=JQ s0 hQ ah (ops.toList.drop m) _ a w G r (by
    rw[qu]at J⊢;intro o ho;exact J o (List.mem_of_mem_drop ho)) al
   have e:wpOpsIn (WF ro) 0 P ops QQ (List.range' m (ops.size-m))=wpListIn (WF ro) 0 P ops QQ (ops.toList.drop m):=by
    have:=wpOpsIn_eq_wpListIn (F:=WF ro) (n:=0) (P:=P) (ops:=ops) (Q:=QQ) (ops.toList.drop m) m (fun j=>zSp);simpa using this
   show wpOpsIn (WF ro) 0 P ops QQ (List.range' m (ops.size-m)) a w;rw[e];exact ae
  .simp only[Zs]
   intro i k x y a2 hx hy hc pre post e;have I:k<m:=by have:=(zw.1 hy).1;omega
   rw[R i zOm]at hx;rw[R k I]at hy;have a5:=T k zOm i a2;rw[zIn,hx,hy]at a5;simp only[hc,Bool.not_true,Bool.false_or]at a5;exact h1.bef l a5 pre (post++List.range' m (ops.size-m)) (by rw[hL,e];simp)
 .obtain ⟨l,T,af⟩:=gW U
  obtain⟨h1,h2,h3,h4⟩:=a4 l;generalize Region.schedule C ops t=L at *
  have a8:∀ i,i<ops.size->i∈L:=by
   intro i hi;refine yR fun h=>?_
   have h1:(i :: L).length<=(qm ops.size).length:=jv (vj.2 ⟨h,h4⟩) (fun k I=>by
    rcases qp.1 I with rfl|I
    .simpa using hi
    .simpa using (h3 k I))
   simp at h1;omega
  have ag:g+d<ops.size:=zUs a7;rcases s3 (a8 g zOm) (a8 (g+d) ag) zOm with hb|hb
  .refine WP s0 J hQ r _ h2 h3 h4 (fun i k x y a2 hx hy hc=>?_) hA
   by_cases he:i=g/\k=g+d
   .rw [he.1,he.2];exact hb
   .exact h1.bef l (T i k x y a2 he hx hy hc)
  .obtain ⟨a3,e0,hq,hs⟩:=JU P pl ops (y7 g d ops.toList) st hB
   have R:∀ k:Nat,(y7 g d ops.toList).toArray[k]?=ops[mvI g (g+d) k]?:=by
    intro k;have:=WT g d ops.toList k a7;simpa using this
   have a1:(y7 g d ops.toList).toArray.size=ops.size:=by simp[J0]
   have aa:∀(i:Nat) (o:wx),(y7 g d ops.toList).toArray[i]?=some o->yH P pl ops (a3 i) o (a3 (i+1)):=fun i o ho=>hs i o (zUs ho)
   have e1:∀ k,mvI g (g+d) (mvP g (g+d) k)=k:=nv zOm;have e2:∀ k,mvP g (g+d) (mvI g (g+d) k)=k:=ny zOm;have an:∀ k,k<ops.size->mvP g (g+d) k<ops.size:=by
    intro k I;unfold mvP;split
    .exact I
    .split
     .exact ag
     .split<;>omega
   have key:=JW (QQ:=QQ) aa s0 (mvI g (g+d)) (fun k _=>(R k).symm) ?_ (fun a w G r=>hQ _ a w G (zUs hq) r) (L.map (mvP g (g+d))) [] a w G ?_ (by simpa[J0] using h2) ?_ ?_ (by rw[JY,e0];exact r)
   .simpa [List.map_map,Function.comp_def,e1] using key
   .rw [qu]at J⊢
    intro o ho;obtain⟨k,I⟩:=List.mem_iff_getElem?.1 ho;have:ops[mvI g (g+d) k]?=some o:=by rw[<-R];simpa using I
    exact J o (by have:=Array.mem_of_getElem? this;simpa using this)
   .simp only[Zs]
    intro i k x y a2 hx hy hc p q e;rw[R]at hx hy;have ao:Bef L (mvI g (g+d) i) (mvI g (g+d) k):=by
     by_cases I:k=g+d
     .have ek:mvI g (g+d) k=g:=by unfold mvI;rw[zIn,zIn,if_pos I]
      rw[ek]at hy⊢;by_cases hi:i<g
      .have ei:mvI g (g+d) i=i:=by unfold mvI;rw[if_pos hi]
       rw[ei]at hx⊢;exact h1.bef l (T i g x y hi zOm hx hy hc)
      .have ei:mvI g (g+d) i=i+1:=by unfold mvI;rw[if_neg hi,if_pos zOm]
       rw[ei]at hx⊢;by_cases aq:i+1=g+d
       .rw [aq];exact hb
       .rw [af (i+1) x y zOm zOm hx hy]at hc
        exact absurd hc zSp
     .by_cases hi:i=g+d
      .have ei:mvI g (g+d) i=g:=by unfold mvI;rw[zIn,zIn,if_pos hi]
       have ek:mvI g (g+d) k=k:=by unfold mvI;rw[zIn,zIn,if_neg I]
       rw[ei]at hx⊢;rw[ek]at hy⊢;exact h1.bef l (T g k x y zOm zOm hx hy hc)
      .have ar:mvI g (g+d) i<mvI g (g+d) k:=by
        unfold mvI;rw[if_neg I,if_neg hi];split<;>split<;>(try split)<;>(try split)<;>omega
       have au:mvI g (g+d) i≠g:=by
        unfold mvI;rw[if_neg hi];split
        .omega
        .split<;>omega
       exact h1.bef l (T _ _ x y ar (fun h=>au h.1) hx hy hc)
    have e':L=p.map (mvI g (g+d))++mvI g (g+d) k :: q.map (mvI g (g+d)):=by
     have:=congrArg (List.map (mvI g (g+d))) e;simpa[List.map_map,Function.comp_def,e1] using this
    have:=ao _ _ e';obtain⟨z,hz,av⟩:=qs.1 this;have:z=i:=by have:=congrArg (mvP g (g+d)) av;rwa[e2,e2]at this
    exact this ▸ hz
   .intro k I
    simp only[Zs,qs]at I;obtain⟨z,hz,rfl⟩:=I;rw[a1];exact an z (h3 z hz)
   .simp only[Zs]
    exact List.Pairwise.map _ (fun x y aw e=>aw (by have:=congrArg (mvI g (g+d)) e;rwa[e1,e1]at this)) h4
end
end Go.Ev
namespace Go.Ev
open Go Go.RowKit
theorem qt.congr{P:qf}{pl:Pol}{det:Bool}{j:Option Tmp}{op:Op}{ev ev':uk->AV}{mu:Mu}{K C:AV->Mu->Prop}(h:qt P pl det j op ev mu K C)(g:∀ x,x∈op.operands->ev x=ev' x):qt P pl det j op ev' mu K C:=by
 cases op<;>simp only[qt,Op.operands]at h g⊢<;>try (exact h.elim)
 case move x=>grind
 case assign x=>grind
 case makeFunc f first I =>
  grind [u3]
 case pick c x y=>grind
 case alloc=>exact h
 case box t x=>grind
 case build t J=>rw[<-ZK g];exact h
 case buildSlice t n J=>rw[<-ZK g];exact h
 case load t x=>grind
 case store t x y=>grind
 case nilCheck x=>grind
 case binOp op t x y yt=>grind
 case unOp op t x=>grind
 case convert s t x=>grind
 case makeInterface t x=>grind
 case makeSlice t x y=>grind
 case slice t x R T U =>
  rw[<-g x zSp,<-ZL (o:=R) (fun y p=>g y (by simp only[Array.mem_append];exact .inl (.inl (.inr p)))),
   <-ZL (o:=T) (fun y p=>g y (by simp only[Array.mem_append];exact .inl (.inr p))),<-ZL (o:=U) (fun y p=>g y (by simp only[Array.mem_append];exact .inr p))]
  exact h
 case fieldAddr t x f=>grind
 case field t x f=>grind
 case indexAddr t x i=>grind
 case index t x i=>grind
 case extract x i=>grind
 case typeAssert x xt t ok=>grind
 case makeMap=>exact h
 case lookup t m k ok=>grind
 case mapUpdate t m k v=>grind
 case insert t m k v=>grind
 case mapEntry t m k=>grind
 case entryStore t m k v=>grind
 case range t m=>grind
 case next i str=>grind
 case entry i=>grind
 case panic x=>grind
 case call c =>
  obtain⟨callee,args,a0⟩:=c;cases callee with
  |invoke r m=>exact h.elim
  |value f =>
   grind [Call.operands,u3]
  |builtin b =>
   simp only[Call.operands]at g;simp only at h⊢;rw[<-u3 (l:=args) (fun x hx=>g x (zP1 hx))];exact h
def nA(o:wx):Bool:=
 match o.op with
 | .call c=>match c.callee with | .builtin .len | .builtin .cap | .builtin .min | .builtin .max=>false|_=>true
 | .panic _ | .next .. => true
 |_=>false
def zf(ops:Array wx)(i:Nat):Option Tmp:=(ops[i]?).bind (·.dst)
def yc(ops:Array wx)(i:Nat)(t:Tmp):Bool:=match ops[i]? with|some o=>(vt ops o).contains t|none=>false
def J1(ops:Array wx)(i:Nat):Bool:=match ops[i]? with|some o=>memR o|none=>false
def um(st:St)(d:Tmp)(mu:Mu):AV->Mu->Prop:=fun v m=>v=st.tm d/\m=mu
def noK:AV->Mu->Prop:=fun _ _=>False
end Go.Ev
namespace Go.Ev
open Go Go.RowKit
section
variable {a:Act}{ops:Array wx}{G:Gh}{O g:List Nat}{i:Nat}{o:wx}{pl:Pol}{P:qf}{w:j2}
def un(o:wx):Bool:=match o.op with | .alloc _=>true|_=>false
def Qf(pl:Pol)(o:wx):Nat:=if un o then 2 else if memW pl o||nA o then 1 else 0
def qQ(pl:Pol)(ops:Array wx)(i:Nat):Nat:=match ops[i]? with|some o=>Qf pl o|none=>0
def pend(pl:Pol)(ops:Array wx)(pre:List Nat)(j:Nat):List Nat:=pre.filter fun p=>qQ pl ops p == 0&&(J1 ops p&&!(zx ops j).testBit p)
def ZO(pl:Pol)(ops:Array wx):List Nat->List Nat->Bool
 |_,[]=>true
 |pre,j :: O=>(!pre.contains j&&((qm ops.size).all fun i=>match zf ops i with|some d=>!yc ops j d||pre.contains i|none=>true)) &&
   ((qQ pl ops j == 2||pre.all fun i=>qQ pl ops i == 0||(zx ops j).testBit i)&&ZO pl ops (pre++[j]) O)
def Qg(pl:Pol)(ops:Array wx)(O:List Nat):Bool:=
 (yb ops&&(ops.toList.all fun o=>!un o||o.guard.isNone))&&((O.all fun i=>decide (i<ops.size))&&((qm ops.size).all fun i=>O.contains i)) &&
 (((qm ops.size).all fun i=>match zf ops i with
  |some d=>(qm ops.size).all fun j=>(i == j||zf ops j != some d)&&(!yc ops j d||(zx ops j).testBit i)
  |none=>qQ pl ops i == 1)&&ZO pl ops [] O)
structure jW (pl:Pol) (ops:Array wx) (O:List Nat):Prop where
 edges:yb ops=true
 guards:∀(i:Nat) (o:wx),ops[i]?=some o->un o=true->o.guard=none
 lt:∀ i,i∈O->i<ops.size
 all:∀ i,i<ops.size->i∈O
 du:∀ i j d,i<ops.size->j<ops.size->zf ops i=some d->(i≠j->zf ops j≠some d)/\(yc ops j d=true->(zx ops j).testBit i=true)
 dn:∀ i,i<ops.size->zf ops i=none->qQ pl ops i=1
 ord:∀(PO lO:List Nat) (j:Nat),O=PO++j :: lO->j ∉ PO/\(∀ i d,i<ops.size->zf ops i=some d->yc ops j d=true->i∈PO)/\(qQ pl ops j≠2->∀ i,i∈PO->qQ pl ops i≠0->(zx ops j).testBit i=true)
theorem WV:∀(O pre:List Nat),ZO pl ops pre O=true->∀(g l:List Nat) (j:Nat),O=g++j :: l ->
  j ∉ pre++g/\(∀ i d,i<ops.size->zf ops i=some d->yc ops j d=true->i∈pre++g)/\(qQ pl ops j≠2->∀ i,i∈pre++g->qQ pl ops i≠0->(zx ops j).testBit i=true)
 | [],pre,h,g,l,j,e=>by cases g<;>simp at e
 |k :: O,pre,h,g,l,j,e=>by
  simp only[ZO,qi]at h;obtain⟨⟨r,t⟩,C,o⟩:=h;cases g with
  |nil =>
   grind
  |cons p g =>
   simp only[yS,Jh]at e;obtain⟨rfl,e⟩:=e;have:=WV O (pre++[k]) o g l j e;simpa using this
theorem nB(h:Qg pl ops O=true):jW pl ops O:=by
 unfold Qg at h;simp only[qi]at h;obtain⟨⟨⟨t,l⟩,p,r⟩,C,I⟩:=h;simp only[qu,zY]at l p r C;refine⟨t,fun i o U J=>?_,fun i g=>by simpa using p i g,fun i g=>by simpa using r i g,fun i j d g hj P=>?_,fun i g P=>?_,fun R T j e=>?_⟩
 .have:=l o (by grind)
  rw[J]at this;simpa using this
 .grind
 .grind
 .have:=WV O [] I R T j e
  simpa using this
def uo(P:qf)(pl:Pol)(o:wx)(st:St):Prop:=qt P pl true o.dst o.op st.ev st.mu (match o.dst with|some d=>um st d st.mu|none=>noK) noK
def jk(P:qf)(pl:Pol)(ops:Array wx):List Nat->St->Prop
 | [],_=>True
 |p :: l,st=>(match ops[p]? with|some o=>OptK (zp ops st o) fun b=>Br b (uo P pl o st) True|none=>True)/\jk P pl ops l st
theorem J2{st:St}:∀{l:List Nat},jk P pl ops l st->∀{i:Nat} {o:wx} {d:Tmp},i∈l->ops[i]?=some o->o.dst=some d->zp ops st o=some true->DS P pl o st.ev st.mu (st.tm d) st.mu
 | [],_,i,_,_,p,_,_,_=>absurd p zb
 |j :: l,h,i,o,d,p,t,C,I=>by
  obtain⟨g,J⟩:=h;rcases qp.1 p with rfl|p
  .rw [t]at g
   obtain⟨b,r,g,_⟩:=g;rw[I]at r;have g:uo P pl o st:=g (by cases r;rfl);unfold uo at g;have e:(match o.dst with|some d=>um st d st.mu|none=>noK)=um st d st.mu:=by rw[C]
   rw[e]at g;exact g
  .exact J2 J p t C I
def plan(pl:Pol)(ops:Array wx):List Nat->List Nat->List (Nat×Nat×List Nat)
 |_,[]=>[]
 |pre,j :: O=>(j,qQ pl ops j,if qQ pl ops j=0 then [] else pend pl ops pre j) :: plan pl ops (pre++[j]) O
def jX(P:qf)(ops:Array wx):List (Nat×Nat×List Nat)->Prop
 | []=>True
 | (j,k,_) :: T=>(match k,ops[j]? with|2,some o=>(match o.op with | .alloc e=>OptK (qv P e) fun z=>z.cells.all AV.one=true|_=>False)|_,_=>True)/\jX P ops T
def awpT(P:qf)(pl:Pol)(ops:Array wx)(Q:St->Prop)(g:AV->St->Prop):List (Nat×Nat×List Nat)->St->Prop
 | [],st=>Q st
 | (j,k,r) :: T,st=>match ops[j]? with
  |none=>False
  |some o=>OptK (zp ops st o) fun b=>Br b (qt P pl (k != 1) o.dst o.op st.ev st.mu (fun v m=>jk P pl ops r (st.put o.dst v m)/\awpT P pl ops Q g T (st.put o.dst v m)) (fun v m=>k=1/\∀ i,g v ⟨i,m⟩)) (awpT P pl ops Q g T (st.put o.dst (.sc vd) st.mu))
def SegA(P:qf)(pl:Pol)(ops:Array wx)(Q:St->Prop)(g:AV->St->Prop)(st:St):Prop:=
 ∃ O,Qg pl ops O=true/\jX P ops (plan pl ops [] O)/\awpT P pl ops Q g (plan pl ops [] O) st
theorem s6{ro:Ro}{G0:Gh}{a8:Mu}{w0:j2}{n:Nat}{st:St}(r:Rel ro G0 a8 w0 n G st a w){d:Tmp}{b:Nat}{e:j1}{zv:j3}(h1:(ofV zv).cells.all AV.one=true)
  (ht:a.tmps.getD d vd = .pointer (some ⟨b,0,none⟩)) (hb:w.heap[b]?=some (.cells zv.cells e)) (a2:w0.heap.size<=b) (hl:¬Live G st.mu b) (I:¬G.imm b) :
  Rel ro G0 a8 w0 n ⟨G.imm,G.blk++[(b,zv.cells.size)]⟩ (st.put (some d) (.ptr st.mu.length 0) (st.mu++[.arr (ofV zv).cells])) a w:=by
 have s:=r.stp.sim;have a1:=s.len;have J:G.le ⟨G.imm,G.blk++[(b,zv.cells.size)]⟩:=⟨fun b h=>h,fun i x h=>by
  grind⟩
 have he:=Ext.refl G w.heap;have o:∀{i:Nat} {c':Cell} {g C:Nat},i<st.mu.length->(G.blk++[(b,zv.cells.size)])[i]?=some (g,C)->G.blk[i]?=some (g,C):=fun {i c' g C} I hk=>by
  grind
 have new:∀{i g C:Nat},i=st.mu.length->(G.blk++[(b,zv.cells.size)])[i]?=some (g,C)->(g,C)=(b,zv.cells.size):=fun {i g C} I hk=>by
  grind
 have P:∀ x,Live ⟨G.imm,G.blk++[(b,zv.cells.size)]⟩ (st.mu++[.arr (ofV zv).cells]) x->Live G st.mu x\/x=b:=fun x ⟨i,c',t',hc,hd,hk⟩=>by
  rcases zr hc with ⟨I,l⟩|⟨I,l⟩
  .exact .inl ⟨i,c',t',l,hd,o (c':=c') I hk⟩
  grind
 have a3:jh G w.heap zv.cells.size (.cells zv.cells e) (.arr (ofV zv).cells):=by
  have hv:VRel G w.heap (ofV zv) zv:=VRel.ofV zv;obtain⟨ag,T,_⟩:=hv.cells (fun c hc=>by simpa using qu.1 h1 c hc);exact⟨zv.cells,e,rfl,rfl,zOm,fun j y hj=>⟨by grind,T j y hj⟩⟩
 have a9:Sim ⟨G.imm,G.blk++[(b,zv.cells.size)]⟩ (st.mu++[.arr (ofV zv).cells]) w.heap:=by
  refine⟨zP1 a1,s.imm,?_,?_,?_,s.tab⟩
  .intro i c' g R hc hd hk
   rcases zr hc with ⟨I,l⟩|⟨I,l⟩
   .obtain ⟨o',q1,q2⟩:=s.obj i c' g R l hd (o (c':=c') I hk)
    exact⟨o',q1,q2.mono J he⟩
   .obtain ⟨rfl,rfl⟩:=Prod.mk.inj (new I hk)
    subst l;exact⟨_,hb,a3.mono J he⟩
  .intro i c' g R hc hd hk aa
   rcases zr hc with ⟨I,l⟩|⟨ab,l⟩
   .exact s.live i c' g R l hd (o (c':=c') I hk) aa
   grind
  .intro i j ci cj x ti tj ab af ad ae a4 a5
   rcases zr ab with ⟨U,a6⟩|⟨U,a6⟩<;>rcases zr af with ⟨a0,a7⟩|⟨a0,a7⟩
   .exact s.inj i j ci cj x ti tj a6 a7 ad ae (o (c':=ci) U a4) (o (c':=cj) a0 a5)
   .have a:=o (c':=ci) U a4
    have c:=new a0 a5;obtain⟨rfl,_⟩:=Prod.mk.inj c;exact absurd ⟨i,ci,ti,a6,ad,a⟩ hl
   .have a:=o (c':=cj) a0 a5
    have c:=new U a4;obtain⟨rfl,_⟩:=Prod.mk.inj c;exact absurd ⟨j,cj,tj,a7,ae,a⟩ hl
   .omega
 refine⟨fun t=>?_,fun h=>?_,r.size,⟨r.stp.le.trans J,a9,r.stp.keep,r.stp.size,fun x hx=>?_,r.stp.inew,r.stp.tape,r.stp.os,r.stp.output,r.stp.drawn⟩,fun p hp=>(r.kp p hp).mono J he⟩
 .by_cases e:t=d
  .subst e
   have:(st.put (some t) (.ptr st.mu.length 0) (st.mu++[.arr (ofV zv).cells])).tm t = .ptr st.mu.length 0:=by simp[St.put]
   rw[this,ht];refine .ptr _ _ _ zv.cells.size ?_;show (G.blk++[_])[st.mu.length]?=_;rw[<-a1];simp
  .rw [yy (fun h=>e (by cases h;rfl))]
   exact(r.tm t).mono J he
 .obtain ⟨Ds,q1,q2,q3⟩:=r.df h
  refine⟨Ds,q1,q2,fun D hD=>⟨(q3 D hD).1,(q3 D hD).2.obj,fun hx=>?_,(q3 D hD).2.nimm⟩⟩;rcases P D hx with hx|rfl
  .exact (q3 D hD).2.nlive hx
  .have:=(q3 D hD).2.obj
   rw[hb]at this;cases this
 .rcases P x hx with hx|rfl
  .exact r.stp.live x hx
  .exact .inr a2
def behind(pl:Pol)(ops:Array wx)(g j pre:List Nat)(t:Tmp):Prop:=(∃ i,i∈g/\i ∉ pre/\zf ops i=some t)\/∃ i,i∈j/\qQ pl ops i=2/\zf ops i=some t
open Classical in
noncomputable def yd(pl:Pol)(ops:Array wx)(g i pre:List Nat)(st:St):St:=⟨fun t=>if behind pl ops g i pre t then .any else st.tm t,st.mu⟩
theorem y8{i pre:List Nat}{st:St}{t:Tmp}(h:¬behind pl ops g i pre t):(yd pl ops g i pre st).tm t=st.tm t:=by
 unfold yd;simp only;rw[if_neg h]
theorem u4{i pre:List Nat}{st:St}{t:Tmp}(h:behind pl ops g i pre t):(yd pl ops g i pre st).tm t = .any:=by
 unfold yd;simp only;rw[if_pos h]
structure AlF (P:qf) (ops:Array wx) (G:Gh) (mu:Mu) (base:Nat) (a:Act) (w:j2) (i b:Nat):Prop where
 x:∃(o:wx) (e:j1) (d:Tmp) (zv:j3),ops[i]?=some o/\o.op = .alloc e/\o.dst=some d/\qv P e=some (ofV zv)/\a.tmps.getD d vd = .pointer (some ⟨b,0,none⟩)/\w.heap[b]?=some (.cells zv.cells e)
 base:base<=b
 nl:¬Live G mu b
 ni:¬G.imm b
theorem AlF.lt{mu:Mu}{base:Nat}{b:Nat}(h:AlF P ops G mu base a w i b):b<w.heap.size:=by
 obtain⟨o,e,d,g,_,_,_,_,_,j⟩:=h.x
 grind
theorem AlF.step{G':Gh}{mu p:Mu}{base:Nat}{C:Act}{w':j2}{b:Nat}(h:AlF P ops G mu base a w i b)(t:Stp G mu w G' p w')(ht:∀ d,zf ops i=some d->C.tmps.getD d vd=a.tmps.getD d vd):AlF P ops G' p base C w' i b:=by
 have l:=h.lt;obtain⟨o,e,d,I,J,r,R,T,hp,U⟩:=h.x;refine⟨⟨o,e,d,I,J,r,R,T,?_,?_⟩,h.base,fun j=>?_,fun g=>?_⟩
 .grind [zf]
 .rw [t.keep b l h.nl];exact U
 .rcases t.live b j with j|j
  .exact h.nl j
  .omega
 .rcases t.inew b g with g|g|g
  .exact h.ni g
  .exact h.nl g
  .omega
theorem Rel.weak{ro:Ro}{j:Gh}{i:Mu}{l:j2}{n:Nat}{st g:St}(r:Rel ro j i l n G st a w)(o:g.mu=st.mu)(p:∀ t,g.tm t = .any\/g.tm t=st.tm t):Rel ro j i l n G g a w:=by
 refine⟨fun t=>?_,fun h=>by rw[o];exact r.df h,r.size,by rw[o];exact r.stp,r.kp⟩;rcases p t with e|e
 .rw [e];exact .any _
 .rw [e];exact r.tm t
def DG(P:qf)(pl:Pol)(ops:Array wx)(o:wx)(st:St)(d:Tmp)(m:Mu):Prop:=∃ b,zp ops st o=some b/\(b=true->DS P pl o st.ev m (st.tm d) m)/\(b=false->st.tm d = .sc vd)
theorem DG.re{st:St}{d:Tmp}{m g:Mu}(h:DG P pl ops o st d m)(l:memW pl o=false)(p:memR o=true->zp ops st o=some true->DS P pl o st.ev g (st.tm d) g):DG P pl ops o st d g:=by
 obtain⟨b,i,r,t⟩:=h;refine⟨b,i,fun e=>?_,t⟩;subst e;cases j:memR o with
 |true=>exact p j i
 |false=>exact((r rfl).mem l).2 j g
theorem ZP{st g:St}(h:∀ t,(vt ops o).contains t=true->g.tm t=st.tm t):zp ops g o=zp ops st o:=by
 grind [zp,bind,vt]
theorem nC{st:St}(h:o.guard=none):zp ops st o=some true:=by
 unfold zp;rw[h]
structure SegI (P:qf) (pl:Pol) (ops:Array wx) (O:List Nat) (ro:Ro) (G0:Gh) (mu0:Mu) (w0:j2) (n:Nat) (Q:St->Prop) (Qp:AV->St->Prop) (pre:List Nat) (a:Act) (w:j2) (PO lO:List Nat) (st:St) (G:Gh) (B:Nat->Nat):Prop where
 split:O=PO++lO
 awp:awpT P pl ops Q Qp (plan pl ops PO lO) st
 s:∀ i,i∈PO->qQ pl ops i≠0->i∈pre
 d:∀ i,i∈pre->qQ pl ops i≠2->i∈PO
 p:∀ i o d,i∈PO->i ∉ pre->ops[i]?=some o->o.dst=some d->DG P pl ops o st d st.mu
 al:∀ i,i∈lO->i∈pre->AlF P ops G st.mu w0.heap.size a w i (B i)
 inj:∀ i j,i∈lO->j∈lO->i∈pre->j∈pre->i≠j->B i≠B j
 rel:Rel ro G0 mu0 w0 n G (yd pl ops PO lO pre st) a w
theorem ZQ{k:Nat}(g:ops[k]?=some o){t:Tmp}(i:Operand.tmp t∈o.op.operands):yc ops k t=true:=by
 simp only[yc,g,List.contains_iff_mem,vt,JR,qR,List.mem_filterMap];exact .inl ⟨.tmp t,zUs i,rfl⟩
theorem jW.disj{j:List Nat}(K:jW pl ops O)(h:O=g++j){i:Nat}(l:i∈j):i ∉ g:=by
 obtain⟨s,t,rfl⟩:=List.append_of_mem l;have:=(K.ord (g++s) t i (by rw[h];simp)).1
 grind
theorem jW.rd{j:List Nat}(K:jW pl ops O)(h:O=j++g){i e:Nat}{d:Tmp}(o:i∈j)(l:e∈g)(p:zf ops e=some d):yc ops i d=false:=by
 cases r:yc ops i d with
 |false=>rfl
 |true =>
  obtain⟨s,t,rfl⟩:=List.append_of_mem o;have:=(K.ord s (t++g) i (by rw[h];simp)).2.1 e d (K.lt e (by rw[h];simp[l])) p r;exact absurd (yD _ this) (K.disj h l)
theorem J3(g:ops[i]?=some o)(h:qQ pl ops i=0):memW pl o=false:=by
 unfold qQ at h;rw[g]at h;simp only[Qf]at h
 grind
theorem nD(g:ops[i]?=some o)(h:qQ pl ops i=2):∃ e,o.op = .alloc e:=by
 grind [qQ,Qf,un]
theorem WW(pl:Pol)(ops:Array wx)(i:Nat):qQ pl ops i=0\/qQ pl ops i=1\/qQ pl ops i=2:=by
 unfold qQ;split
 .unfold Qf
  split
  .exact .inr (.inr rfl)
  grind
 .exact .inl rfl
section
variable {P:qf} {pl:Pol} {ops:Array wx} {O:List Nat} {ro:Ro} {G0:Gh} {mu0:Mu} {w0:j2} {n:Nat} {Q:St->Prop} {Qp:AV->St->Prop} {pre:List Nat} {a:Act} {w:j2}
theorem s7(K:jW pl ops O){PO lO:List Nat}{e:Nat}(C:O=PO++e :: lO){st:St}{i:Nat}{o j:wx}{d:Tmp}(J:i∈PO)(ho:ops[i]?=some o)(R:ops[e]?=some j)(hd:o.dst=some d){m I:Mu}{v:AV}(h:DS P pl o st.ev m (st.tm d) m) :
  DS P pl o (st.put j.dst v I).ev m ((st.put j.dst v I).tm d) m:=by
 have l:e∈e :: lO:=q8 ..;have T:i≠e:=fun h=>K.disj C l (h ▸ J)
 have U:i<ops.size:=K.lt i (by rw[C];simp[J]);have p:e<ops.size:=K.lt e (by rw[C];simp);have a0:zf ops i=some d:=by simp[zf,ho,hd]
 have r:zf ops e=j.dst:=by simp[zf,R]
 have e1:(st.put j.dst v I).tm d=st.tm d:=yy (fun h=>(K.du i e d U p a0).1 T (by rw[r];exact h));rw[e1];refine h.congr fun x hx=>?_
 cases x with
 |tmp t =>
  show st.tm t=(st.put j.dst v I).tm t;refine(yy fun h=>?_).symm;have h1:=K.rd C J l (by rw[r];exact h)
  grind [ZQ]
 |const v=>rfl
 |global g=>rfl
 |func f=>rfl
theorem s8(K:jW pl ops O){PO lO:List Nat}{e:Nat}(g:O=PO++e :: lO){st:St}{i:Nat}{o I:wx}{d:Tmp}(J:i∈PO)(R:ops[i]?=some o)(j:ops[e]?=some I)(hd:o.dst=some d){m m':Mu}{v:AV}(h:DG P pl ops o st d m) :
  DG P pl ops o (st.put I.dst v m') d m:=by
 obtain⟨b,hb,l,h2⟩:=h;have p:e∈e :: lO:=q8 ..;have T:i≠e:=fun h=>K.disj g p (h ▸ J)
 have U:i<ops.size:=K.lt i (by rw[g];simp[J]);have r:e<ops.size:=K.lt e (by rw[g];simp);have a0:zf ops i=some d:=by simp[zf,R,hd]
 have C:zf ops e=I.dst:=by simp[zf,j]
 have e1:(st.put I.dst v m').tm d=st.tm d:=yy (fun h=>(K.du i e d U r a0).1 T (by rw[C];exact h));refine⟨b,?_,fun e=>s7 K g J R j hd (l e),fun e=>by rw[e1];exact h2 e⟩;rw[ZP fun t ht=>?_]
 .exact hb
 .refine yy fun h=>?_
  have l:=K.rd g J p (by rw[C];exact h);simp only[yc,R]at l;rw[ht]at l;cases l
theorem s9(K:jW pl ops O){PO T:List Nat}{e:Nat}{st:St}{G:Gh}{B:Nat->Nat}(h:SegI P pl ops O ro G0 mu0 w0 n Q Qp pre a w PO (e :: T) st G B)(hk:qQ pl ops e=0) :
  ∃ a5,SegI P pl ops O ro G0 mu0 w0 n Q Qp pre a w (PO++[e]) T a5 G B:=by
 have a6:e∈e :: T:=q8 ..;have R:=K.disj h.split a6;have a7:e ∉ pre:=fun U=>R (h.d e U zOm)
 have r:e<ops.size:=K.lt e (by rw[h.split];simp);have ho:ops[e]?=some ops[e]:=zP1 r;generalize ops[e]=o at ho;have hw:=h.awp;simp only[plan,hk,awpT,ho]at hw;obtain⟨b,hb,a8,ad⟩:=hw;have hw:∃ v,(b=true->DS P pl o st.ev st.mu v st.mu)/\(b=false->v = .sc vd)/\awpT P pl ops Q Qp (plan pl ops (PO++[e]) T) (st.put o.dst v st.mu):=by
  cases b with
  |false=>grind
  |true =>
   obtain⟨v,m,a0,a4⟩:=qt.det (o:=o) (h:=a8 rfl);obtain rfl:=(a0.mem (J3 ho hk)).1
   grind
 obtain⟨v,a0,a9,a4⟩:=hw;have C:zf ops e=o.dst:=by simp[zf,ho]
 cases hd:o.dst with
 |none=>have:=K.dn e r (by rw[C,hd]);omega
 |some d =>
  rw[hd]at C;have aa:O=(PO++[e])++T:=by rw[h.split];simp
  refine⟨st.put o.dst v st.mu,aa,a4,fun i l a1=>?_,fun i l a1=>?_,fun i o' d' l a2 I J=>?_,fun i l a2=>h.al i (qJ _ l) a2,fun i j l hj=>h.inj i j (qJ _ l) (qJ _ hj),?_⟩
  .rcases qR.1 l with l|l
   .exact h.s i l a1
   grind
  .exact yD _ (h.d i l a1)
  .show DG P pl ops o' (st.put o.dst v st.mu) d' st.mu
   rcases qR.1 l with l|l
   .exact s8 K h.split l I ho J (h.p i o' d' l a2 I J)
   .rw [qV]at l;subst l
    rw[ho]at I;cases I;rw[hd]at J;cases J;have e1:(st.put o.dst v st.mu).tm d=v:=by simp[St.put,hd]
    have ab:∀ t,yc ops i t=true->(st.put o.dst v st.mu).tm t=st.tm t:=fun t ht=>by
     refine yy fun U=>?_
     have a3:t=d:=by rw[hd]at U;cases U;rfl
     subst a3;exact R ((K.ord PO T i h.split).2.1 i t r C ht)
    refine⟨b,by grind [ZP,yc],fun e=>?_,fun e=>by rw[e1];exact a9 e⟩;rw[e1];refine(a0 e).congr fun x hx=>?_
    cases x with
    |tmp t =>
     show st.tm t=(st.put o.dst v st.mu).tm t;exact(ab t (ZQ ho hx)).symm
    |const v=>rfl
    |global g=>rfl
    |func f=>rfl
  .refine h.rel.weak rfl fun t=>?_
   by_cases hb:behind pl ops (PO++[e]) T pre t
   .exact .inl (u4 hb)
   .right
    rw[y8 hb];have a3:o.dst≠some t:=fun U=>hb (.inl ⟨e,zSp,a7,by rw[C];rw[hd]at U;exact U⟩)
    rw[yy a3,y8];rintro (⟨i,h1,h2,h3⟩|⟨i,h1,h2,h3⟩)
    .exact hb (.inl ⟨i,yD _ h1,h2,h3⟩)
    .rcases qp.1 h1 with rfl|h1
     .omega
     .exact hb (.inr ⟨i,h1,h2,h3⟩)
theorem fS(K:jW pl ops O)(ag:∀ i k,(zx ops k).testBit i=true->k∈pre->i∈pre){PO lO:List Nat}{e:Nat}{st:St}{G:Gh}{B:Nat->Nat}(h:SegI P pl ops O ro G0 mu0 w0 n Q Qp pre a w PO (e :: lO) st G B)(hk:qQ pl ops e=2)(a3:e∈pre) :
  ∃ a8 G',SegI P pl ops O ro G0 mu0 w0 n Q Qp pre a w (PO++[e]) lO a8 G' B:=by
 have a1:e∈e :: lO:=q8 ..;have ah:=K.disj h.split a1;have ai:e<ops.size:=K.lt e (by rw[h.split];simp);have C:=h.al e a1 a3;obtain⟨o,ty,d,zv,ho,a4,hd,hz,hp,U⟩:=C.x;have a9:zf ops e=some d:=by simp[zf,ho,hd]
 have I:=h.awp;simp only[plan,hk,awpT,ho]at I;rw[nC (K.guards e o ho (by simp[un,a4]))]at I;obtain⟨b,aa,I,_⟩:=I;have I:=I (by cases aa;rfl);simp only[a4]at I;simp only[qt]at I;obtain⟨z,aj,h1,ab,ad⟩:=I;have:z=ofV zv:=by
  grind
 subst this;have a5:O=(PO++[e])++lO:=by rw[h.split];simp
 have a6:=s6 (st:=yd pl ops PO (e :: lO) pre st) h.rel h1 hp U C.base C.nl C.ni;refine⟨st.put o.dst (.ptr st.mu.length 0) (st.mu++[.arr (ofV zv).cells]),⟨G.imm,G.blk++[(B e,zv.cells.size)]⟩,a5,ad,fun i g l=>?_,fun i g l=>?_,fun i o' d' g r J a2=>?_,fun i g r=>?_,fun i j g hj=>h.inj i j (qJ _ g) (qJ _ hj),?_⟩
 .rcases qR.1 g with g|g
  .exact h.s i g l
  grind
 .exact yD _ (h.d i g l)
 .have g:i∈PO:=by
   grind
  have l:qQ pl ops i=0:=by
   by_cases hh:qQ pl ops i=0
   .exact hh
   .exact absurd (h.s i g hh) r
  refine(s8 K h.split g J ho a2 (h.p i o' d' g r J a2)).re (J3 J l) fun hm U=>?_
  refine J2 ab (i:=i) ?_ J a2 U;rw[zIn];refine jL.2 ⟨g,?_⟩
  grind [zx,absurd,J1]
 .have ae:i≠e:=fun hh=>by
   subst hh;exact K.disj a5 g zSp
  have R:=h.al i (qJ _ g) r;refine⟨R.x,R.base,fun hl=>?_,R.ni⟩;obtain⟨j,c,t,hc,af,a7⟩:=hl;have a0:=h.rel.stp.sim.len;have a0:G.blk.length=st.mu.length:=a0;rcases zr hc with ⟨q1,q2⟩|⟨q1,q2⟩
  .rcases zr a7 with ⟨_,q3⟩|⟨q3,_⟩
   .exact R.nl ⟨j,c,t,q2,af,q3⟩
   .omega
  .rcases zr a7 with ⟨q3,_⟩|⟨_,q3⟩
   .omega
   .exact h.inj i e (qJ _ g) a1 r a3 ae (Prod.mk.inj q3).1
 .refine a6.weak rfl fun t=>?_
  by_cases U:behind pl ops (PO++[e]) lO pre t
  .exact .inl (u4 U)
  .right
   rw[y8 U,hd];by_cases T:t=d
   .subst T;simp[St.put];rfl
   .rw [yy (fun h'=>T (by cases h';rfl)),yy (fun h'=>T (by cases h';rfl)),y8]
    rintro (⟨i,h1,h2,h3⟩|⟨i,h1,h2,h3⟩)
    .exact U (.inl ⟨i,yD _ h1,h2,h3⟩)
    .rcases qp.1 h1 with rfl|h1
     .rw [a9]at h3;cases h3;exact T rfl
     .exact U (.inr ⟨i,h1,h2,h3⟩)
theorem fT(K:jW pl ops O)(g:∀ i k,(zx ops k).testBit i=true->k∈pre->i∈pre){B:Nat->Nat}:∀(es j l:List Nat) (st:St) (G:Gh),SegI P pl ops O ro G0 mu0 w0 n Q Qp pre a w j (es++l) st G B->(∀ i,i∈es->qQ pl ops i≠1/\(qQ pl ops i=2->i∈pre)) ->
  ∃ p G',SegI P pl ops O ro G0 mu0 w0 n Q Qp pre a w (j++es) l p G' B
 | [],j,l,st,G,h,_=>⟨st,G,zUs h⟩
 |e :: es,j,l,st,G,h,r=>by
  obtain⟨c1,c2⟩:=r e (q8 ..);rcases WW pl ops e with o|o|o
  .obtain ⟨st1,t⟩:=s9 K h o
   obtain⟨st2,I,J⟩:=fT K g es (j++[e]) l st1 G t fun i C=>r i (qJ _ C)
   grind
  .exact absurd o c1
  .obtain ⟨st1,R,t⟩:=fS K g h o (c2 o)
   obtain⟨st2,I,J⟩:=fT K g es (j++[e]) l st1 R t fun i C=>r i (qJ _ C)
   grind
end
end
section
variable {ops:Array wx}{P:qf}
theorem fK{G:Gh}{mu:Mu}{w:j2}(s:Sim G mu w.heap)(o:Obj):Stp G mu w G mu (w.alloc o):=by
 have g:=Ji s o;refine⟨.refl G,⟨s.len,fun b j=>UN (s.imm b j) g.size,?_,s.live,s.inj,s.tab.mono (fun _ h=>h) g.keep⟩,fun b j _=>ud w o b j,g.size,fun b h => .inl h,fun b h => .inl h,rfl,rfl,rfl,qr _⟩;intro i c l p r t C;obtain⟨I,P,J⟩:=s.obj i c l p r t C;exact⟨I,by grind [ud,zw],J.mono (.refl G) g⟩
theorem nE{ro:Ro}{o:wx}{e:j1}(g:o.op = .alloc e){z:AV}(j:qv P e=some z){a:Act}{w:j2}{next:Act->j2->Prop}{Q:Exit->Act->j2->Prop}
  (h:∀ zv,z=ofV zv->next (a.put o.dst (.pointer (some ⟨w.heap.size,0,none⟩))) (w.alloc (.cells zv.cells e))):o.wpIn (WF ro) 0 P a w next Q:=by
 obtain⟨l,op,r,pos,after,guard⟩:=o;simp only at g h;subst g;refine⟨fun _ _=>trivial,?_⟩;rw[show (WF ro).round=ro.rd from rfl,Oper.semAt_eq _ _ _ (fun c e=>by cases e)];obtain⟨zv,i,p⟩:=ue j w;refine Wy ?_;have t:(newVar e zv).run P w = .ok ⟨w.heap.size,0,none⟩ (w.alloc (.cells zv.cells e)):=rfl;simp_all[execOp,Instr.alloc,qz,qA,Oper.upon]
theorem nG{pl:Pol}{ro:Ro}{G0:Gh}{a8:Mu}{w0:j2}{n:Nat}(s0:Sim G0 a8 w0.heap)(b6:(ops.toList.all fun o=>dOk n o.dst)=true)
  {Q:St->Prop} {Qp:AV->St->Prop} {QQ:Exit->Act->j2->Prop} (hQ:∀ st a w G,Q st->Rel ro G0 a8 w0 n G st a w->QQ .normal a w)
  (bi:∀ v st a w G u,Qp v st->Rel ro G0 a8 w0 n G st a w->VRel G w.heap v u->QQ (.panic [{ v:=u,recovered:=false }]) a w) {st:St} {a:Act} {w:j2} {G:Gh} (r:Rel ro G0 a8 w0 n G st a w)
  (h:SegA P pl ops Q Qp st) (a9:Bool) (t:Nat):wpOpsIn (WF ro) 0 P ops QQ (Region.schedule a9 ops t) a w:=by
 obtain⟨O,bj,b7,h⟩:=h;have K:=nB bj;obtain⟨h1,h2⟩:=WD K.edges a9 t;obtain⟨h3,h4⟩:=s5 K.edges _ _ rfl h1;have h3:=fun k hk=>(h3 k hk).1
 generalize Region.schedule a9 ops t=L at *
 have b8:∀ i,i<ops.size->i∈L:=by
  intro i l;refine yR fun hn=>?_
  have bk:(i :: L).length<=(qm ops.size).length:=jv (vj.2 ⟨hn,h4⟩) (fun k hk=>by
   grind)
  simp at bk;omega
 have aw:∀(i:Nat) (o:wx) (e:j1),ops[i]?=some o->o.op = .alloc e->∃ z,qv P e=some z:=by
  have gen:∀(O pre:List Nat),jX P ops (plan pl ops pre O)->∀ i,i∈O->∀(o:wx) (e:j1),ops[i]?=some o->o.op = .alloc e->∃ z,qv P e=some z:=by
   intro O;induction O with
   |nil=>grind
   |cons j O ih =>
    intro pre hn i l o e ho a7;simp only[plan,jX]at hn;rcases qp.1 l with rfl|l
    .have hk:qQ pl ops i=2:=by
      unfold qQ;rw[ho];simp[Qf,un,a7]
     have hn:=hn.1;rw[hk,ho]at hn;simp only[a7]at hn;obtain⟨z,hz,_⟩:=hn;exact⟨z,hz⟩
    grind
  exact fun i o e ho a7=>gen O [] b7 i (K.all i (zw.1 ho).1) o e ho a7
 have key:∀(post pre:List Nat) (a:Act) (w:j2) (G:Gh) (PO lO:List Nat) (aa:St) (B:Nat->Nat),L=pre++post->SegI P pl ops O ro G0 a8 w0 n Q Qp pre a w PO lO aa G B->wpOpsIn (WF ro) 0 P ops QQ post a w:=by
  intro post;induction post with
  |nil =>
   intro pre a w G PO lO aa B hL I;rw[zA]at hL;subst hL;have ax:∀ i,i<ops.size->i∈L:=b8;obtain⟨st2,G2,I2⟩:=fT K (fun i k hb hk=>h3 k hk |> fun _=>by
    have:=h1.bef K.edges hb;obtain⟨s,t,e⟩:=List.append_of_mem hk;have:=this s t e
    grind) lO PO [] aa G (by simpa using I) (fun i l=>by
    have b9:=K.lt i (by rw[I.split];simp[l]);refine⟨fun hk=>K.disj I.split l (I.d i (ax i b9) zOm),fun _=>ax i b9⟩)
   simp only[wpOpsIn];have hw:=I2.awp;simp only[plan,awpT]at hw;refine hQ st2 a w G2 hw (I2.rel.weak rfl fun t => .inr ?_);refine(y8 ?_).symm;rintro (⟨i,q1,q2,q3⟩|⟨i,q1,_⟩)
   .exact q2 (ax i (K.lt i (by rw[I2.split];simp;simpa using q1)))
   grind
  |cons k post ih =>
   intro pre a w G PO lO aa B hL I;have hk:k<ops.size:=h3 k (by rw[hL];simp);have ca:(pre++k :: post).Nodup:=by rw[<-hL];exact h4
   have ay:k ∉ pre:=fun hh=>by
    grind
   have ho:ops[k]?=some ops[k]:=zP1 hk;generalize bv:ops[k]=o at ho;have ah:dOk n o.dst=true:=qu.1 b6 o (by grind);have bef:∀ i,(zx ops k).testBit i=true->i∈pre:=fun i l=>h1.bef K.edges l pre post hL
   have bb:∀ i j,(zx ops j).testBit i=true->j∈pre->i∈pre:=fun i j hb hj=>by
    obtain⟨s,t,e⟩:=List.append_of_mem hj;have:=h1.bef K.edges hb s (t++k :: post) (by rw[hL,e];simp);rw[e];exact yD _ this
   have az:L=(pre++[k])++post:=by rw[hL];simp
   have ab:zf ops k=o.dst:=by simp[zf,ho]
   have ai:∀(i:Nat) (d:Tmp),i<ops.size->i≠k->zf ops i=some d->∀ u,(a.put o.dst u).tmps.getD d vd=a.tmps.getD d vd:=fun i d l J hd u=>by
    cases bl:o.dst with
    |none=>rfl
    |some x =>
     have bm:x≠d:=fun e=>(K.du i k d l hk hd).1 J (by rw[ab,bl,e])
     simp only[Act.put,qB];rw[Array.getElem?_setIfInBounds_ne bm]
   have aq:∀(es T:List Nat),lO=es++T->(∀ i,i∈es->qQ pl ops i≠0->(zx ops k).testBit i=true)->∃ b0 G',SegI P pl ops O ro G0 a8 w0 n Q Qp pre a w (PO++es) T b0 G' B:=fun es T e hm=>by
    subst e;refine fT K bb es PO T aa G I fun i l=>⟨fun R=>?_,fun R=>bef i (hm i l zOm)⟩
    have:=I.d i (bef i (hm i l zOm)) zOm;exact K.disj I.split (yD _ l) this
   have ar:∀(PO lO:List Nat) (G:Gh) (st:St),SegI P pl ops O ro G0 a8 w0 n Q Qp pre a w PO lO st G B->(∀ i d,i<ops.size->zf ops i=some d->yc ops k d=true->i∈PO)->∀ t,yc ops k t=true->(yd pl ops PO lO pre st).tm t=st.tm t:=by
    intro PO lO G st I au t ht;refine y8 ?_;rintro (⟨i,q1,q2,q3⟩|⟨i,q1,q2,q3⟩)
    .exact q2 (bef i ((K.du i k t (K.lt i (by rw[I.split];simp[q1])) hk q3).2 ht))
    .exact K.disj I.split q1 (au i t (K.lt i (by rw[I.split];simp[q1])) q3 ht)
   rcases WW pl ops k with ad|ad|ad
   ·
    have:∃ PO lO st G,k∈PO/\SegI P pl ops O ro G0 a8 w0 n Q Qp pre a w PO lO st G B:=by
     by_cases a3:k∈PO
     .exact ⟨PO,lO,aa,G,a3,I⟩
     .have aj:k∈lO:=by
       have:=K.all k hk;rw[I.split]at this;exact(qR.1 this).resolve_left a3
      obtain⟨es,T,rfl⟩:=List.append_of_mem aj;have bc:=(K.ord (PO++es) T k (by rw[I.split];simp)).2.2 zOm;obtain⟨b0,G',I'⟩:=aq (es++[k]) T zSp fun i l R=>by
       rcases qR.1 l with l|l
       .exact bc i (List.mem_append_right _ l) R
       .rw [qV]at l;subst l;exact absurd ad R
      exact⟨_,_,b0,G',zSp,I'⟩
    clear I aq;obtain⟨PO,lO,st,G,a3,I⟩:=this;cases hd:o.dst with
    |none=>have:=K.dn k hk (by rw[ab,hd]);omega
    |some d =>
    have au:∀ i d,i<ops.size->zf ops i=some d->yc ops k d=true->i∈PO:=fun i d l bn hr=>by
     obtain⟨s,t,hs⟩:=List.append_of_mem a3;have:=(K.ord s (t++lO) k (by rw[I.split,hs];simp)).2.1 i d l bn hr;rw[hs];exact yD _ this
    obtain⟨b,hb,hT,hF⟩:=I.p k o d a3 ay ho hd;have b1:zp ops (yd pl ops PO lO pre st) o=some b:=by
     rw[ZP fun t ht=>ar PO lO G st I au t (by simp only[yc,ho];exact ht)];exact hb
    have a5:=ZJ I.rel b1;have ak:∀(G':Gh) (w':j2) (u:j3),Stp G (yd pl ops PO lO pre st).mu w G' (yd pl ops PO lO pre st).mu w'->VRel G' w'.heap (st.tm d) u->wpOpsIn (WF ro) 0 P ops QQ post (a.put o.dst u) w':=by
     intro G' w' u U hv;refine ih (pre++[k]) _ _ G' PO lO st B az ?_;have an:=I.rel.put s0 U hv ah;refine⟨I.split,I.awp,fun i l R=>yD _ (I.s i l R),fun i l R=>?_,fun i o' d' l C=>I.p i o' d' l (fun hh=>C (yD _ hh)),fun i l C=>?_,fun i j l hj C ag=>?_,?_⟩
     .rcases qR.1 l with l|l
      .exact I.d i l R
      .rw [qV]at l;subst l;exact a3
     .have J:i≠k:=fun e=>K.disj I.split l (e ▸ a3)
      have a2:i∈pre:=by
       rcases qR.1 C with h|h
       .exact h
       .rw [qV]at h;exact absurd h J
      exact(I.al i l a2).step U fun d' a1=>ai i d' (K.lt i (by rw[I.split];simp[l])) J a1 u
     .have J:∀ i,i∈lO->i∈pre++[k]->i∈pre:=fun i l C=>by
       rcases qR.1 C with h|h
       .exact h
       .rw [qV]at h
        subst h;exact absurd a3 (K.disj I.split l)
      exact I.inj i j l hj (J i l C) (J j hj ag)
     .refine an.weak rfl fun t=>?_
      by_cases hb:behind pl ops PO lO (pre++[k]) t
      .exact .inl (u4 hb)
      .right
       rw[y8 hb];by_cases a4:o.dst=some t
       .rw [hd]at a4;cases a4
        simp[St.put,hd]
       .rw [yy a4,y8]
        rintro (⟨i,q1,q2,q3⟩|q)
        .refine hb (.inl ⟨i,q1,fun hh=>?_,q3⟩)
         rcases qR.1 hh with hh|hh
         .exact q2 hh
         .rw [qV]at hh;subst hh;exact a4 (by rw[<-ab];exact q3)
        .exact hb (.inr q)
    simp only[wpOpsIn,ho,a5];cases b with
    |false =>
     rw[if_neg zSp];exact⟨fun _ _=>trivial,ak G w vd (Stp.refl I.rel.stp.sim) (by rw[hF rfl];exact .sc _ rfl)⟩
    |true =>
    have bo:=hT rfl;rw[if_pos rfl];have be:DS P pl o (yd pl ops PO lO pre st).ev (yd pl ops PO lO pre st).mu (st.tm d) (yd pl ops PO lO pre st).mu:=bo.congr fun x hx=>by
     cases x with
     |tmp t =>
      show st.tm t=(yd pl ops PO lO pre st).tm t;exact(ar PO lO G st I au t (ZQ ho hx)).symm
     |const v=>rfl
     |global g=>rfl
     |func f=>rfl
    refine ZI I.rel.stp.sim I.rel.ev be ?_ ?_
    .rintro v' cb G' w' u ⟨rfl,rfl⟩ U hv
     exact ak G' w' u U hv
    .intro _ _ _ _ _ hh;exact hh.elim
   ·
    have a3:k ∉ PO:=fun hh=>ay (I.s k hh zOm)
    have aj:k∈lO:=by
     have:=K.all k hk;rw[I.split]at this;exact(qR.1 this).resolve_left a3
    obtain⟨es,T,rfl⟩:=List.append_of_mem aj;have ae:=K.ord (PO++es) T k (by rw[I.split];simp);obtain⟨st,G,I⟩:=aq es (k :: T) rfl fun i l R=>ae.2.2 zOm i (List.mem_append_right _ l) R
    clear aq;generalize cc:PO++es=a0 at *
    have hw:=I.awp;simp only[plan,ad,awpT,ho]at hw;obtain⟨b,hb,hw,bq⟩:=hw;have b1:zp ops (yd pl ops a0 (k :: T) pre st) o=some b:=by
     rw[ZP fun t ht=>ar a0 (k :: T) G st I ae.2.1 t (by simp only[yc,ho];exact ht)];exact hb
    have a5:=ZJ I.rel b1;have ak:∀(v:AV) (m:Mu) (G':Gh) (w':j2) (u:j3),awpT P pl ops Q Qp (plan pl ops (a0++[k]) T) (st.put o.dst v m)->(∀ i o' d',i∈a0->i ∉ pre->qQ pl ops i=0->ops[i]?=some o'->o'.dst=some d'->DG P pl ops o' (st.put o.dst v m) d' m) ->
      Stp G st.mu w G' m w'->VRel G' w'.heap v u->wpOpsIn (WF ro) 0 P ops QQ post (a.put o.dst u) w':=by
     intro v m G' w' u b2 br U hv;refine ih (pre++[k]) _ _ G' (a0++[k]) T (st.put o.dst v m) B az ?_;have an:=I.rel.put s0 U hv ah;have b3:O=(a0++[k])++T:=by rw[I.split];simp
     refine⟨b3,b2,fun i l R=>?_,fun i l R=>?_,fun i o' d' l C a6 a1=>?_,fun i l C=>?_,fun i j l hj C ag=>?_,?_⟩
     .rcases qR.1 l with l|l
      .exact yD _ (I.s i l R)
      .exact List.mem_append_right _ l
     .rcases qR.1 l with l|l
      .exact yD _ (I.d i l R)
      .exact List.mem_append_right _ l
     .have a2:i ∉ pre:=fun hh=>C (yD _ hh)
      have bg:i∈a0:=by
       rcases qR.1 l with l|l
       .exact l
       .exact absurd (List.mem_append_right _ l) C
      have R:qQ pl ops i=0:=by
       by_cases hh:qQ pl ops i=0
       .exact hh
       .exact absurd (I.s i bg hh) a2
      exact br i o' d' bg a2 R a6 a1
     .have J:i≠k:=fun e=>by
       subst e;exact K.disj b3 l zSp
      have a2:i∈pre:=by
       rcases qR.1 C with h|h
       .exact h
       .rw [qV]at h;exact absurd h J
      exact(I.al i (qJ _ l) a2).step U fun d' a1=>ai i d' (K.lt i (by rw[I.split];simp[l])) J a1 u
     .have J:∀ i,i∈T->i∈pre++[k]->i∈pre:=fun i l C=>by
       rcases qR.1 C with h|h
       .exact h
       .rw [qV]at h
        subst h;exact absurd (show i∈a0++[i] by simp) (K.disj b3 l)
      exact I.inj i j (qJ _ l) (qJ _ hj) (J i l C) (J j hj ag)
     .refine an.weak rfl fun t=>?_
      by_cases hb:behind pl ops (a0++[k]) T (pre++[k]) t
      .exact .inl (u4 hb)
      .right
       rw[y8 hb];by_cases a4:o.dst=some t
       .simp [St.put,a4]
       .rw [yy a4,yy a4,y8]
        rintro (⟨i,q1,q2,q3⟩|⟨i,q1,q2,q3⟩)
        .refine hb (.inl ⟨i,yD _ q1,fun hh=>?_,q3⟩)
         rcases qR.1 hh with hh|hh
         .exact q2 hh
         .rw [qV]at hh;subst hh;exact a4 (by rw[<-ab];exact q3)
        .rcases qp.1 q1 with rfl|q1
         .omega
         .exact hb (.inr ⟨i,q1,q2,q3⟩)
    simp only[wpOpsIn,ho,a5];cases b with
    |false =>
     rw[if_neg zSp];exact⟨fun _ _=>trivial,ak (.sc vd) st.mu G w vd (bq rfl) (fun i o' d' l C R a6 a1=>s8 K I.split l a6 ho a1 (I.p i o' d' l C a6 a1)) (Stp.refl I.rel.stp.sim) (.sc _ rfl)⟩
    |true =>
    rw[if_pos rfl];have hw:qt P pl false o.dst o.op st.ev st.mu (fun v m=>jk P pl ops (if 1=0 then [] else pend pl ops a0 k) (st.put o.dst v m)/\awpT P pl ops Q Qp (plan pl ops (a0++[k]) T) (st.put o.dst v m)) (fun v m=>True/\∀ tm,Qp v ⟨tm,m⟩):=hw rfl;have bs:=hw.congr (ev':=(yd pl ops a0 (k :: T) pre st).ev) (fun x hx=>by
     cases x with
     |tmp t=>exact(ar a0 (k :: T) G st I ae.2.1 t (ZQ ho hx)).symm
     |const v=>rfl
     |global g=>rfl
     |func f=>rfl)
    have bw:k∈k :: T:=q8 ..;refine ZI (mu:=(yd pl ops a0 (k :: T) pre st).mu) I.rel.stp.sim I.rel.ev bs ?_ ?_
    .rintro v m G' w' u ⟨bh,b2⟩ U hv
     rw[if_neg zDe]at bh;refine ak v m G' w' u b2 (fun i o' d' l C R a6 a1=>?_) U hv;refine(s8 K I.split l a6 ho a1 (I.p i o' d' l C a6 a1)).re (J3 a6 R) fun hm hb=>?_
     refine J2 bh (i:=i) (jL.2 ⟨l,?_⟩) a6 a1 hb;have b4:(zx ops k).testBit i=false:=by
      cases hq:(zx ops k).testBit i with
      |false=>rfl
      |true=>exact absurd (bef i hq) C
     simp[R,J1,a6,hm,b4]
    .rintro v m G' w' u ⟨_,hp⟩ U hv
     refine bi v ⟨(yd pl ops a0 (k :: T) pre st).tm,m⟩ a w' G' u (hp _) ?_ hv;exact I.rel.put (d:=none) s0 U (.any vd) rfl
   ·
    have a3:k ∉ PO:=fun hh=>ay (I.s k hh zOm)
    have aj:k∈lO:=by
     have:=K.all k hk;rw[I.split]at this;exact(qR.1 this).resolve_left a3
    obtain⟨ty,a7⟩:=nD ho ad;obtain⟨z,hz⟩:=aw k o ty ho a7;cases hd:o.dst with
    |none=>have:=K.dn k hk (by rw[ab,hd]);omega
    |some d =>
    have a5:Region.wanted o (yielded ops a.tmps)=true:=by unfold Region.wanted;rw[K.guards k o ho (by simp[un,a7])]
    simp only[wpOpsIn,ho,a5,if_true];refine nE a7 hz fun zv bt=>?_
    subst bt;have U:=fK I.rel.stp.sim (.cells zv.cells ty);have an:=I.rel.put (v := .any) (u := .pointer (some ⟨w.heap.size,0,none⟩)) (d:=o.dst) s0 U (.any _) ah;refine ih (pre++[k]) _ _ G PO lO aa (fun i=>if i=k then w.heap.size else B i) az ?_;refine⟨I.split,I.awp,fun i l R=>yD _ (I.s i l R),fun i l R=>?_,fun i o' d' l C=>I.p i o' d' l (fun hh=>C (yD _ hh)),fun i l C=>?_,fun i j l hj C ag b5=>?_,?_⟩
    .rcases qR.1 l with l|l
     .exact I.d i l R
     .rw [qV]at l;subst l;exact absurd ad R
    .by_cases J:i=k
     .subst J
      rw[if_pos rfl];refine⟨⟨o,ty,d,zv,ho,a7,hd,hz,?_,Zu w _⟩,I.rel.stp.size,fun hl=>?_,fun l=>?_⟩
      .rw [hd]
       have bu:d<n:=by rw[hd]at ah;simpa[dOk] using ah
       have:d<a.tmps.size:=by rw[I.rel.size];exact bu
       simp[Act.put,qB,this]
      .have:=I.rel.stp.sim.livesize hl;omega
      .have:=I.rel.stp.sim.imm _ l;omega
     .rw [if_neg J]
      have a2:i∈pre:=by
       rcases qR.1 C with h|h
       .exact h
       .rw [qV]at h;exact absurd h J
      exact(I.al i l a2).step U fun d' a1=>ai i d' (K.lt i (by rw[I.split];simp[l])) J a1 _
    .have af:∀ i,i∈pre++[k]->i≠k->i∈pre:=fun i C J=>by
      rcases qR.1 C with h|h
      .exact h
      .rw [qV]at h;exact absurd h J
     by_cases J:i=k
     .rw [if_pos J,if_neg (fun e=>b5 (J.trans e.symm))]
      have ao:j≠k:=fun e=>b5 (J.trans e.symm)
      have:=(I.al j hj (af j ag ao)).lt;omega
     .rw [if_neg J]
      by_cases ao:j=k
      .rw [if_pos ao]
       have:=(I.al i l (af i C J)).lt;omega
      .rw [if_neg ao]
       exact I.inj i j l hj (af i C J) (af j ag ao) b5
    .refine an.weak rfl fun t=>?_
     by_cases hb:behind pl ops PO lO (pre++[k]) t
     .exact .inl (u4 hb)
     .right
      rw[y8 hb];have a4:o.dst≠some t:=fun e=>hb (.inr ⟨k,aj,ad,by rw[ab];exact e⟩)
      rw[yy a4,y8];rintro (⟨i,q1,q2,q3⟩|q)
      .refine hb (.inl ⟨i,q1,fun hh=>?_,q3⟩)
       rcases qR.1 hh with hh|hh
       .exact q2 hh
       .rw [qV]at hh;subst hh;exact a4 (by rw[<-ab];exact q3)
      .exact hb (.inr q)
 refine key L [] a w G [] O st (fun _=>0) zSp ⟨rfl,h,fun i l=>absurd l zb,fun i l=>absurd l zb,fun i o d l=>absurd l zb,fun i _ l=>absurd l zb,fun i j _ _ l=>absurd l zb,?_⟩;refine r.weak rfl fun t=>?_
 grind [behind,u4,y8]
def ZR(P:qf)(pl:Pol)(ops:Array wx)(Q:St->Prop)(g:AV->St->Prop)(st:St):Prop:=WU P pl ops Q g st\/SegA P pl ops Q g st
theorem nH{pl:Pol}{ro:Ro}{C:Gh}{i:Mu}{I:j2}{n:Nat}(J:Sim C i I.heap)(j:(ops.toList.all fun o=>dOk n o.dst)=true)
  {Q:St->Prop} {R:AV->St->Prop} {QQ:Exit->Act->j2->Prop} (T:∀ st a w G,Q st->Rel ro C i I n G st a w->QQ .normal a w)
  (p:∀ v st a w G u,R v st->Rel ro C i I n G st a w->VRel G w.heap v u->QQ (.panic [{ v:=u,recovered:=false }]) a w) {st:St} {a:Act} {w:j2} {G:Gh} (r:Rel ro C i I n G st a w)
  (h:ZR P pl ops Q R st) (g:Bool) (t:Nat):wpOpsIn (WF ro) 0 P ops QQ (Region.schedule g ops t) a w:=by
 rcases h with h|h
 .exact nz J j T p r h g t
 .exact nG J j T p r h g t
end
end Go.Ev
namespace Go.Ev
open Go Go.RowKit
section
variable {c:Code}
inductive qF where
 |normal
 |exit (id:Nat)
 |ret
 |pan (v:AV)
def seqQ(n:St->Prop)(Q:qF->St->Prop):qF->St->Prop
 | .normal,st=>n st
 |e,st=>Q e st
def vT(id:Nat)(Q:qF->St->Prop):qF->St->Prop
 | .exit i,st=>if i=id then Q .normal st else Q (.exit i) st
 |e,st=>Q e st
def vU(I:Nat->St->Prop)(n:Nat)(Q:qF->St->Prop):qF->St->Prop
 | .normal,st=>∃ m,m<n/\I m st
 |e,st=>Q e st
def Frz(st g:St):Prop:=∃ give,g.mu=cutM (fun i=>!give i) st.mu 0/\∀ i,Gv st.mu give (st.tm i) (g.tm i)
inductive Fz:St->St->Prop where
 |refl (st:St):Fz st st
 |step {a b c:St} (f:Frz a b) (k:Fz b c):Fz a c
def FzQ(Q:qF->St->Prop)(e:qF)(st:St):Prop:=∃ g,Frz st g/\(match e with | .pan _=>g=st|_=>True)/\Q e g
def fzQ:Bool->(qF->St->Prop)->qF->St->Prop
 |true,Q=>FzQ Q
 |false,Q=>Q
def Stb(I:Mu->Prop):Prop:=∀ g,I g->I (g++[.dead])
def Yld(P:qf)(i:Nat)(rows:List (List AV))(I:Nat->Mu->Prop)(j:Mu->Prop):Prop:=
 ∀ k x g,rows[k]?=some x->I k g->vR P i x g fun b p=>(b=true/\I (k+1) p)\/(b=false/\j p)
def yI(P:qf)(f:us)(caps:List AV)(rows:List (List AV)):Prop:=zO P f /\
 ∀(i:Nat) (I:Nat->Mu->Prop) (g:Mu->Prop),(∀ k,Stb (I k))->Stb g->Yld P i rows I g->∀ j,I 0 j ->
  qK P f (.yl i :: caps) j fun e p=>∃ r,e = .ret r/\(I rows.length p\/g p)
def J4(P:qf)(f:us)(caps:List AV)(rows:List (List AV)):Prop:=zO P f /\
 ∀(i:Nat) (I:Nat->Mu->Prop) (g:Mu->Prop),Yld P i rows I g->∀ j,I 0 j ->
  qK P f (.yl i :: caps) j fun e p=>∃ r,e = .ret r/\(I rows.length p\/g p)
def WX(P:qf)(f:us)(caps:List AV)(rows:List (List AV))(I:Nat->Mu->Prop)(g:qF->Mu->Prop):Prop:=(yI P f caps rows/\(∀ k,Stb (I k))/\∀ e,Stb (g e))\/J4 P f caps rows
def jy(g:Nat->AV):List Tmp->List AV->(Nat->AV)
 |t :: R,x :: J=>jy (fun i=>if i=t then x else g i) R J
 |_,_=>g
def asQ(n:St->Prop):qF->St->Prop
 | .normal,st=>n st
 |_,_=>False
def rndQ(I:Nat->Mu->Prop)(g:qF->Mu->Prop)(k:Nat):qF->St->Prop
 | .normal,st=>I (k+1) st.mu
 | .pan _,_=>False
 |e,st=>g e st.mu
def awp(P:qf)(pl:Pol):Code->(qF->St->Prop)->St->Prop
 | .skip,Q,st=>Q .normal st
 | .label _,Q,st=>Q .normal st
 | .region _ r l,Q,st=>(l=false/\awpS P pl false r r.toList (Q .normal) (fun v st=>Q (.pan v) st) st)\/(l=true/\∃ j,Fz st j/\ZR P pl r (Q .normal) (fun v st=>Q (.pan v) st) j)
 | .seq a b,Q,st=>awp P pl a (seqQ (awp P pl b Q) Q) st
 | .cond c a b,Q,st=>∃ t,st.ev c = .sc (.bool t)/\Br t (awp P pl a Q st) (awp P pl b Q st)
 | .block id i,Q,st=>awp P pl i (vT id Q) st
 | .loop i,Q,st=>∃(z:Bool) (I:Nat->St->Prop) (n:Nat) (j:St),Fz st j/\I n j/\∀ n st,I n st->awp P pl i (vU I n (fzQ z Q)) st
 | .exit id,Q,st=>Q (.exit id) st
 | .ret,Q,st=>Q .ret st
 | .scope i,Q,st=>awp P pl i Q st
 | .rangeFunc g R C i,Q,st=>∃(z:Bool) (T:us) (o:List AV) (rows:List (List AV)) (I:Nat->Mu->Prop) (J:qF->Mu->Prop),
   st.ev g = .fn (.func T) [] o/\WX P T o rows I J/\I 0 (st.mu++[.dead]) /\
   (∀ k x p,rows[k]?=some x->I k p->x.length=R.size/\awp P pl C (asQ (fun st=>awp P pl i (rndQ I J k) st)) ⟨jy st.tm R.toList x,p⟩) /\
   (∀ p,I rows.length p->fzQ z Q .normal ⟨st.tm,p⟩)/\(∀ e p,J e p->fzQ z Q e ⟨st.tm,p⟩)
 |_,_,_=>False
def noRF:Code->Bool
 | .seq a b=>noRF a&&noRF b
 | .cond _ a b=>noRF a&&noRF b
 | .block _ b=>noRF b
 | .loop b=>noRF b
 | .scope b=>noRF b
 | .rangeFunc .. => false
 |_=>true
def dOkC(n:Nat):Code->Bool
 | .region _ g _=>g.toList.all fun o=>dOk n o.dst
 | .seq a b=>dOkC n a&&dOkC n b
 | .cond _ a b=>dOkC n a&&dOkC n b
 | .block _ b=>dOkC n b
 | .loop b=>dOkC n b
 | .scope b=>dOkC n b
 | .rangeFunc _ j i b=>(j.toList.all fun t=>decide (t<n))&&dOkC n i&&dOkC n b&&noRF i&&noRF b
 |_=>true
def ERel(G:Gh)(w:j2):qF->Exit->Prop
 | .normal,.normal=>True
 | .exit i,.exit j=>i=j
 | .ret,.ret=>True
 | .pan x,.panic chain=>∃ v,chain=[{ v,recovered:=false }]/\VRel G w.heap x v
 |_,_=>False
def Fit(ro:Ro)(r:Gh)(g:Mu)(j:j2)(n:Nat)(Q:qF->St->Prop)(QQ:Exit->Act->j2->Prop):Prop:=
 ∀ i e st a w G,Q i st->Rel ro r g j n G st a w->ERel G w i e->QQ e a w
theorem Rel.frz{ro:Ro}{l:Gh}{g:Mu}{o:j2}{n:Nat}{G:Gh}{st j:St}{a:Act}{w:j2}(C:Sim l g o.heap)(r:Rel ro l g o n G st a w)(f:Frz st j):∃ G',Rel ro l g o n G' j a w:=by
 obtain⟨give,t,I⟩:=f;refine⟨Go.Ev.frz G give st.mu,fun i=>(I i).sound r.stp.sim (r.tm i),?_,r.size,?_,fun p J=>(vP r.stp.sim give).vrel r.stp.sim (r.kp p J)⟩
 .intro h
  have:=(r.df h).step (vP r.stp.sim give);rw[t];exact this
 rw[t];exact r.stp.trans C (vP r.stp.sim give)
theorem Rel.fz{ro:Ro}{j:Gh}{g:Mu}{l:j2}{n:Nat}{G:Gh}{st i:St}{a:Act}{w:j2}(o:Sim j g l.heap)(r:Rel ro j g l n G st a w)(f:Fz st i):∃ G',Rel ro j g l n G' i a w:=by
 induction f generalizing G with
 |refl st=>exact⟨G,r⟩
 |step f k p =>
  obtain⟨C,t⟩:=r.frz o f;exact p t
theorem Fit.fz{ro:Ro}{t:Gh}{g:Mu}{C:j2}{n:Nat}{Q:qF->St->Prop}{QQ:Exit->Act->j2->Prop}(I:Sim t g C.heap)(h:Fit ro t g C n Q QQ)(z:Bool):Fit ro t g C n (fzQ z Q) QQ:=by
 cases z with
 |false=>exact h
 |true =>
  intro P e st a w G j r p;obtain⟨R,f,J,j⟩:=j;cases P with
  |pan v =>
   simp only at J;subst J;exact h _ e _ a w G j r p
  |normal =>
   obtain⟨l,o⟩:=r.frz I f;exact h _ e _ a w l j o (by cases e<;>exact p)
  |ret =>
   obtain⟨l,o⟩:=r.frz I f;exact h _ e _ a w l j o (by cases e<;>exact p)
  |exit i =>
   obtain⟨l,o⟩:=r.frz I f;exact h _ e _ a w l j o (by cases e<;>exact p)
section
variable {F:Fence} {rm:Nat} {P:qf} {b:Frame} {a:Act} {k:List Item} {cs:List Frame} {w:j2} {Q:Exit->Act->j2->Prop}
theorem u5:step P (lone (b.atR a (.code (.scope c) :: k)) cs w) = .next (lone (b.atR a (.code c :: .inScope c :: k)) cs w):=
 step_lone_go (by simp[stepG,stepG.exec,Frame.atR])
theorem nI:step P (lone (b.atR a (.inScope c :: k)) cs w) = .next (lone (b.atR a k) cs w):=
 step_lone_go (by simp[stepG,stepG.exec,Frame.atR])
theorem nJ(h:c.wpIn F rm P (Exit.noGoto Q) a w):(Code.scope c).wpIn F rm P Q a w:=by
 intro b k cs t C I;have o:(lone (b.atR a (.code (.scope c) :: k)) cs w).fenced P F:=fenced_calm C I rfl;obtain⟨e,i,j,p,g⟩:=h b (.inScope c :: k) cs t C I;cases e with
 |normal=>exact⟨.normal,i,j,p,.head o u5 (StepsIn.trans g (.one (fenced_calm C I rfl) nI))⟩
 |exit id=>exact⟨.exit id,i,j,p,fun T J => .head o u5 (g.1 T (by simp[exitTo,J])),
   fun R J=>let ⟨r,U,h2⟩:=g.2 R (by simp[exitTo,J]);⟨r,U,.head o u5 h2⟩⟩
 |goto l=>exact p.elim
 |ret=>exact⟨_,i,j,p,.of_steps (.one o u5) g⟩
 |panic ch=>exact⟨_,i,j,p,.of_steps (.one o u5) g⟩
 |outgrown=>exact⟨_,i,j,p,.of_steps (.one o u5) g⟩
end
end
section
variable {R:AEnd->Mu->Prop}{r:AV}{a:Act}{c:Code}{f:us}{G:Gh}{args:List AV}{mu:Mu}{pl:Pol}{P:qf}{w:j2}
def J5(P:qf)(pl:Pol)(n:Nat)(c:Code):Prop:=∀{ro:Ro} {r:Gh} {g:Mu} {i:j2} (_:Sim r g i.heap) (Q:qF->St->Prop) (j:Exit->Act->j2->Prop) (st:St) (a:Act) (w:j2) (G:Gh),
  Fit ro r g i n Q j->Rel ro r g i n G st a w->dOkC n c=true->((ro.rd=none/\ro.mks=true)\/noRF c=true)->awp P pl c Q st->c.wpIn (WF ro) 0 P j a w
def Qh:qF->Option Code
 | .ret=>some .ret
 | .exit id=>some (.exit id)
 |_=>none
def JJ(n:Nat)(ps:Array Tmp)(j body:Code)(p:Nat->AV)(o:Nat)(I:Nat->Mu->Prop)(k:Nat)(M:Mu):Prop:=
 ∃ fn tmps d,M[o]?=some (.lp { state := .ready,pending:=none,fn,tmps,params:=ps,assign:=j,body,defers:=d } p)/\tmps.size=n/\I k (M.set o .dead)
def JX(ps:Array Tmp)(j body:Code)(p:Nat->AV)(o:Nat)(r:qF->Mu->Prop)(M:Mu):Prop:=
 ∃ fn tmps d e c,M[o]?=some (.lp { state := .done,pending:=some c,fn,tmps,params:=ps,assign:=j,body,defers:=d } p)/\Qh e=some c/\r e (M.set o .dead)
theorem WY{h:Array Obj}:∀(ts:List Tmp) (xs:List AV) (vs:List j3) (l:Nat->AV) (g:Array j3),xs.length=ts.length->vs.length=ts.length ->
  (∀(k:Nat) x,xs[k]?=some x->VRel G h x (vs.getD k vd))->(∀ i,VRel G h (l i) (g.getD i vd))->(∀ t,t∈ts->t<g.size) ->
  (∀ i,VRel G h (jy l ts xs i) (((ts.zip vs).foldl (fun g (x:Tmp×j3)=>g.setIfInBounds x.1 x.2) g).getD i vd))/\((ts.zip vs).foldl (fun g (x:Tmp×j3)=>g.setIfInBounds x.1 x.2) g).size=g.size
 | [],xs,vs,l,g,_,_,_,o,_=>by
  refine⟨?_,rfl⟩;cases xs<;>exact o
 |t :: ts,x :: xs,v :: vs,l,g,p,j,r,o,C=>by
  have U:VRel G h x v:=by simpa using r 0 x rfl
  obtain⟨I,J⟩:=WY ts xs vs (fun i=>if i=t then x else l i) (g.setIfInBounds t v) (zUs p) (zUs j) (fun k y P=>by simpa using r (k+1) y (zUs P)) (fun i=>by
   by_cases R:i=t
   .simp_all
   .rw [if_neg R]
    have:(g.setIfInBounds t v).getD i vd=g.getD i vd:=by
     simp only[qB]
     grind
    rw[this];exact o i) (fun s T=>by simpa using C s (zP1 T))
  exact⟨I,zUs J⟩
 |_ :: _,[],_,_,_,p,_,_,_,_=>by simp at p
 |_ :: _,_ :: _,[],_,_,_,j,_,_,_=>by simp at j
theorem WZ{n:Nat}{ps:Array Tmp}{C body:Code}{rows:List (List AV)}{I:Nat->Mu->Prop}{Ix:qF->Mu->Prop}{tm:Nat->AV}{R:Nat}
  (h1:J5 P pl n C) (h2:J5 P pl n body) (al:dOkC n C=true) (an:dOkC n body=true) (ao:noRF C=true) (aq:noRF body=true) (ar:∀ t,t∈ps.toList->t<n)
  (a3:∀ k x mu,rows[k]?=some x->I k mu->x.length=ps.size/\awp P pl C (asQ (fun st=>awp P pl body (rndQ I Ix k) st)) ⟨jy tm ps.toList x,mu⟩) :
  Yld P R rows (JJ n ps C body tm R I) (JX ps C body tm R Ix):=by
 rintro k x M hx ⟨fn,tmps,d,hM,af,hI⟩ G w vs s ra l a0 hb;obtain⟨o,ho,au⟩:=s.obj R _ l a0 hM zSp hb;obtain⟨rfl,aa⟩:=au;obtain⟨a8,ag⟩:=a3 k x _ hx hI;have ah:vs.size=ps.size:=by rw[ra.1,a8]
 refine⟨_,_,_,_,run_yield ho ah,?_⟩;refine roundIn_of_wpIn (F:=Fence.wide) trivial ?_;simp only;have av:(ps.zip vs).foldl (fun tmps (x:Tmp×j3)=>tmps.setIfInBounds x.1 x.2) tmps=(ps.toList.zip vs.toList).foldl (fun tmps (x:Tmp×j3)=>tmps.setIfInBounds x.1 x.2) tmps:=by
  rw[<-Array.foldl_toList,Array.toList_zip]
 have b4:=WY (G:=G) (h:=w.heap) ps.toList x vs.toList tm tmps (zUs a8) (zUs ah) (fun k y hy=>by simpa[qB,qS] using ra.2 k y hy) aa (fun t ht=>by rw[af];exact ar t ht);refine h1 (ro:=Ro.round l) (s.hid R) _ _ ⟨jy tm ps.toList x,M.set R .dead⟩ _ w G ?_ ⟨?_,fun h=>absurd h (by simp[Ro.round]),?_,Stp.refl (s.hid R),fun p hp=>by simp[Ro.round]at hp⟩ al (.inr ao) ag
 rotate_left
 .grind
 .grind
 intro ae e st1 a1 w1 G1 hq r1 he;cases ae with
 |normal =>
  cases e<;>simp only[ERel]at he
  obtain⟨aw,ax,T1⟩:=r1.stp.unhid s hM zSp hb;have ai:w1.heap[l]?=some (.loop { state := .ready,pending:=none,fn,tmps,params:=ps,assign:=C,body,defers:=d }):=by rw[ax];exact ho
  refine⟨_,run_beginRound ai rfl,?_⟩;simp only;have aj:R<st1.mu.length:=(qn.1 aw).1;have ab:G1.blk[R]?=some (l,a0):=r1.stp.le.blk _ _ hb;have ak:l<w1.heap.size:=(zw.1 ai).1;have W1:=sR (w:=w1) (w':=w1.putObj l (.loop { state := .busy,pending:=none,fn,tmps,params:=ps,assign:=C,body,defers:=d })) T1.sim R _
   (.lp { state := .busy,pending:=none,fn,tmps,params:=ps,assign:=C,body,defers:=d } tm) l a0 _ (yC aj) zSp zSp ab zSp (World.putObj_heap_same ak)
   (fun b ad=>jQ ad) rfl rfl rfl ⟨rfl,fun i=>((aa i).mono r1.stp.le (r1.stp.ext (s.hid R)))⟩
  simp only[List.set_set]at W1;have a9:∀ c:Cell,(st1.mu.set R c).set R .dead=st1.mu:=by
   intro c;rw[List.set_set];apply zT
   grind
  have s1:=W1.sim.hid R;rw[a9]at s1;refine h2 (ro:=Ro.round l) s1 _ _ st1 a1 _ G1 ?_ ⟨fun i=>(r1.tm i).mono (.refl G1) (W1.ext T1.sim),fun h=>absurd h (by simp[Ro.round]),r1.size,Stp.refl s1,fun p hp=>by simp[Ro.round]at hp⟩ an (.inr aq) hq;intro ay e2 st2 a2 w2 G2 a4 r2 a5;have az:Stp G1 ((st1.mu.set R (.lp { state := .busy,pending:=none,fn,tmps,params:=ps,assign:=C,body,defers:=d } tm)).set R .dead) (w1.putObj l (.loop { state := .busy,pending:=none,fn,tmps,params:=ps,assign:=C,body,defers:=d })) G2 st2.mu w2:=by
   rw[a9];exact r2.stp
  obtain⟨b0,b1,T2⟩:=az.unhid W1.sim (yC aj) zSp ab;have a6:w2.heap[l]?=some (.loop { state := .busy,pending:=none,fn,tmps,params:=ps,assign:=C,body,defers:=d }):=by rw[b1];exact World.putObj_heap_same ak
  have a7:R<st2.mu.length:=(qn.1 b0).1;have b2:G2.blk[R]?=some (l,a0):=T2.le.blk _ _ ab;have b3:l<w2.heap.size:=(zw.1 a6).1;have T:Stp G M w G2 (st2.mu.set R (.lp { state := .busy,pending:=none,fn,tmps,params:=ps,assign:=C,body,defers:=d } tm)) w2:=(T1.trans s W1).trans s T2;have U:∀ c:Cell,(st2.mu.set R c).set R .dead=st2.mu:=by
   intro c;rw[List.set_set];apply zT
   grind
  have fin:∀(J:Option Code),Stp G M w G2 (st2.mu.set R (.lp { state:=if J.isNone then .ready else .done,pending:=J,fn,tmps,params:=ps,assign:=C,body,defers:=d } tm))
    (w2.putObj l (.loop { state:=if J.isNone then .ready else .done,pending:=J,fn,tmps,params:=ps,assign:=C,body,defers:=d })):=by
   intro J;have W2:=sR (w:=w2) (w':=w2.putObj l (.loop { state:=if J.isNone then .ready else .done,pending:=J,fn,tmps,params:=ps,assign:=C,body,defers:=d })) T2.sim R _
    (.lp { state:=if J.isNone then .ready else .done,pending:=J,fn,tmps,params:=ps,assign:=C,body,defers:=d } tm) l a0 _ (yC a7) zSp zSp b2 zSp (World.putObj_heap_same b3)
    (fun b ad=>jQ ad) rfl rfl rfl ⟨rfl,fun i=>((aa i).mono T.le (T.ext s))⟩
   simp only[List.set_set]at W2;exact T.trans s W2
  cases ay with
  |normal =>
   cases e2<;>simp only[ERel]at a5
   refine⟨_,_,run_endRound none a6,true,G2,_,rfl,fin none,.inl ⟨rfl,fn,tmps,d,yC a7,af,?_⟩⟩;rw[U];exact a4
  |ret =>
   cases e2<;>simp only[ERel]at a5
   refine⟨_,_,run_endRound (some .ret) a6,false,G2,_,rfl,fin (some .ret),.inr ⟨rfl,fn,tmps,d,.ret,.ret,yC a7,rfl,?_⟩⟩;rw[U];exact a4
  |exit id =>
   cases e2<;>simp only[ERel]at a5
   subst a5;refine⟨_,_,run_endRound (some (.exit id)) a6,false,G2,_,rfl,fin (some (.exit id)),.inr ⟨rfl,fn,tmps,d,.exit id,.exit id,yC a7,rfl,?_⟩⟩;rw[U];exact a4
  |pan v=>exact a4.elim
 |ret=>exact hq.elim
 |exit id=>exact hq.elim
 |pan v=>exact hq.elim
theorem J6{n:Nat}:∀(c:Code),J5 P pl n c:=by
  intro c;induction c with
  |skip=>intro ro G0 T w0 s0 Q QQ st a w G hf r _ _ h;exact wpIn_skip (hf .normal .normal st a w G h r trivial)
  |label l=>intro ro G0 T w0 s0 Q QQ st a w G hf r _ _ h;exact wpIn_label (hf .normal .normal st a w G h r trivial)
  |exit id=>intro ro G0 T w0 s0 Q QQ st a w G hf r _ _ h;exact wpIn_exit (hf (.exit id) (.exit id) st a w G h r rfl)
  |ret=>intro ro G0 T w0 s0 Q QQ st a w G hf r _ _ h;exact wpIn_ret (hf .ret .ret st a w G h r trivial)
  |region id cw cu =>
    intro ro G0 T w0 s0 Q QQ st a w G hf r hd hn h;rcases h with ⟨rfl,h2⟩|⟨rfl,h2⟩
    · refine wpIn_region_list (JQ s0 (fun st a w G U r=>hf .normal .normal st a w G U r trivial) (fun v st a w G u U r hv=>hf (.pan v) (.panic _) st a w G U r ⟨u,rfl,hv⟩) _ st a w G r hd h2)
    · obtain⟨st1,ax,h2⟩:=h2
      obtain⟨G1,r1⟩:=r.fz s0 ax;refine wpIn_region_draw fun t=>?_
      exact nH s0 hd (fun st a w G U r=>hf .normal .normal st a w G U r trivial) (fun v st a w G u U r hv=>hf (.pan v) (.panic _) st a w G U r ⟨u,rfl,hv⟩) (r1.drew s0) h2 _ t
  |seq x y ay az =>
    intro ro G0 T w0 s0 Q QQ st a w G hf r hd hn h;simp only[dOkC,qi]at hd;simp only[noRF,qi]at hn;refine wpIn_seq (ay s0 _ _ st a w G ?_ r hd.1 (hn.imp id And.left) h);intro ae e R a' w' G' U r' he;cases ae<;>cases e<;>simp only[ERel]at he
    · exact az s0 Q QQ R a' w' G' hf r' hd.2 (hn.imp id And.right) U
    · exact hf (.exit _) (.exit _) R a' w' G' U r' he
    · exact hf .ret .ret R a' w' G' U r' trivial
    · exact hf (.pan _) (.panic _) R a' w' G' U r' he
  |cond b0 x y ay az =>
    intro ro G0 T w0 s0 Q QQ st a w G hf r hd hn h;simp only[dOkC,qi]at hd;simp only[noRF,qi]at hn;obtain⟨t,ht,h1,h2⟩:=h;have rc:=r.ev b0;rw[ht]at rc;have ec:a.eval b0 = .bool t:=by generalize a.eval b0=v at rc;cases rc;rfl
    refine wpIn_cond_split ec (fun e=>ay s0 Q QQ st a w G hf r hd.1 (hn.imp id And.left) (h1 e)) (fun e=>az s0 Q QQ st a w G hf r hd.2 (hn.imp id And.right) (h2 e))
  |block id J ih =>
    intro ro G0 T w0 s0 Q QQ st a w G hf r hd hn h;refine wpIn_block (ih s0 _ _ st a w G ?_ r hd hn h);intro ae e R a' w' G' U r' he;cases ae<;>cases e<;>simp only[ERel]at he
    · exact hf .normal .normal R a' w' G' U r' trivial
    · subst he
      simp only[vT]at U;simp only[Exit.inBlock];split at U
      · rename_i hid;rw[if_pos hid];exact hf .normal .normal R a' w' G' U r' trivial
      · rename_i hid;rw[if_neg hid];exact hf (.exit _) (.exit _) R a' w' G' U r' rfl
    · exact hf .ret .ret R a' w' G' U r' trivial
    · exact hf (.pan _) (.panic _) R a' w' G' U r' he
  |loop J ih =>
    intro ro G0 T w0 s0 Q QQ st a w G hf r hd hn h;obtain⟨z,I,n0,st1,ax,hI,a1⟩:=h;obtain⟨G1,r1⟩:=r.fz s0 ax;have hf:=hf.fz s0 z;refine wpIn_loop_ghost (fun k a w=>∃ st G,I k st/\Rel ro G0 T w0 n G st a w) n0 ⟨st1,G1,hI,r1⟩ ?_;intro k a' w' ⟨R,G',bu,r'⟩;refine ih s0 _ _ R a' w' G' ?_ r' hd hn (a1 k R bu);intro ae e st2 a2 w2 G2 U r2 he;cases ae<;>cases e<;>simp only[ERel]at he
    · obtain⟨m,hm,bv⟩:=U
      exact⟨m,hm,st2,G2,bv,r2⟩
    · exact hf (.exit _) (.exit _) st2 a2 w2 G2 U r2 he
    · exact hf .ret .ret st2 a2 w2 G2 U r2 trivial
    · exact hf (.pan _) (.panic _) st2 a2 w2 G2 U r2 he
  |scope J ih =>
    intro ro G0 T w0 s0 Q QQ st a w G hf r hd hn h;refine nJ (ih s0 Q _ st a w G ?_ r hd hn h);intro ae e R a' w' G' U r' he;cases ae<;>cases e<;>simp only[ERel]at he
    · exact hf .normal .normal R a' w' G' U r' trivial
    · exact hf (.exit _) (.exit _) R a' w' G' U r' he
    · exact hf .ret .ret R a' w' G' U r' trivial
    · exact hf (.pan _) (.panic _) R a' w' G' U r' he
  |rangeFunc g ps a6 J b8 b9 =>
    intro ro G0 T w0 s0 Q QQ st a w G hf r hd hn h;have b1:ro.rd=none/\ro.mks=true:=by
      rcases hn with hn|hn
      · exact hn
      · simp[noRF]at hn
    simp only[dOkC,qi,qu,decide_eq_true_eq]at hd;obtain⟨⟨⟨⟨bb,bc⟩,be⟩,bg⟩,bh⟩:=hd;obtain⟨z,gf,av,rows,I,Ix,hg,af,h0,a1,bi,ah⟩:=h;have hf:=hf.fz s0 z;refine wpIn_rangeFunc fun fn _=>?_
    have eg:=r.ev g;rw[hg]at eg;generalize U:a.eval g=gv at eg;cases eg with
    |fn _ _ _ bw ag ca hm hv hw =>
    have e0:bw=#[]:=Array.eq_empty_of_size_eq_zero (zUs ca);subst e0;have bj:zO P gf:=by rcases af with h|h;exact h.1.1;exact h.1
    generalize ai:(Loop.mk .ready none fn a.tmps ps a6 J w.heap.size)=C;have a3:∃ w1,w1=(w.alloc (.deferred (some []))).alloc (.loop C):=⟨_,rfl⟩;obtain⟨w1,a3⟩:=a3;have cv:w1.heap.size=w.heap.size+2:=by rw[a3];simp
    have aj:∀ b,b<w.heap.size->w1.heap[b]?=w.heap[b]?:=by
      intro b hb;rw[a3,Below.heap_alloc _ _ b zSo,Below.heap_alloc _ _ b hb]
    have cb:w1.heap[w.heap.size]?=some (.deferred (some [])):=by
      rw[a3,Below.heap_alloc _ _ _ zSp];exact World.alloc_heap_new w _
    have cc:w1.heap[w.heap.size+1]?=some (.loop C):=by
      rw[a3];have:=World.alloc_heap_new (w.alloc (.deferred (some []))) (.loop C);simpa using this
    have sG:=r.stp.sim;have a7:∀ b,Live G st.mu b->b<w.heap.size:=fun b hb=>sG.livesize hb
    have a4:∃ G1:Gh,G1=⟨G.imm,G.blk++[(w.heap.size+1,0)]⟩:=⟨_,rfl⟩;obtain⟨G1,a4⟩:=a4;have ak:G.le G1:=by
      rw[a4];exact⟨fun _ h=>h,fun i x hx=>by simp only;rw[qT (qn.1 hx).1];exact hx⟩
    have ab:Ext G w.heap w1.heap:=⟨zOm,fun b hb=>aj b (sG.imm b hb)⟩;have a8:G1.blk[st.mu.length]?=some (w.heap.size+1,0):=by rw[a4,<-sG.len];simp
    have a0:∀(j:Nat) (c:Cell) (bt:Nat×Nat),(st.mu++[Cell.lp C st.tm])[j]?=some c->G1.blk[j]?=some bt->(st.mu[j]?=some c/\G.blk[j]?=some bt)\/(j=st.mu.length/\c = .lp C st.tm/\bt=(w.heap.size+1,0)):=by
      intro j c bt hj a9;by_cases bk:j<st.mu.length
      · rw[qT bk]at hj
        rw[a4]at a9;simp only at a9;rw[qT (by rw[sG.len];exact bk)]at a9;exact .inl ⟨hj,a9⟩
      · have cd:=(qn.1 hj).1
        simp at cd;have:j=st.mu.length:=zOm;subst this;rw[a8]at a9;simp at hj a9;exact .inr ⟨rfl,hj.symm,a9.symm⟩
    have s1:Sim G1 (st.mu++[Cell.lp C st.tm]) w1.heap:=by
      refine⟨by rw[a4];simp[sG.len],fun b hb=>?_,?_,?_,?_,sG.tab.mono ak.imm ab.keep⟩
      · rw[a4]at hb;have:=sG.imm b hb;omega
      · intro j c b2 al g1 g2 g3
        rcases a0 j c _ g1 g3 with ⟨q1,q2⟩|⟨rfl,rfl,q⟩
        · obtain⟨o,k1,k2⟩:=sG.obj j c b2 al q1 g2 q2
          exact⟨o,by rw[aj _ (zw.1 k1).1];exact k1,k2.mono ak ab⟩
        · obtain⟨rfl,rfl⟩:=Prod.mk.inj q
          refine⟨_,cc,rfl,fun i=>?_⟩;rw[<-ai];exact(r.tm i).mono ak ab
      · intro j c b2 al g1 g2 g3
        rcases a0 j c _ g1 g3 with ⟨q1,q2⟩|⟨rfl,rfl,q⟩
        · have:=sG.live j c b2 al q1 g2 q2
          rw[a4];exact this
        · obtain⟨rfl,rfl⟩:=Prod.mk.inj q
          rw[a4];intro bl;have:=sG.imm _ bl;omega
      · intro i j ci cj b ti tj g1 g2 g3 g4 g5 g6
        rcases a0 i ci _ g1 g5 with ⟨q1,q2⟩|⟨rfl,rfl,q⟩<;>rcases a0 j cj _ g2 g6 with ⟨p1,p2⟩|⟨rfl,rfl,p⟩
        · exact sG.inj i j ci cj b ti tj q1 p1 g3 g4 q2 p2
        · obtain⟨rfl,rfl⟩:=Prod.mk.inj p
          have:=a7 _ ⟨i,ci,ti,q1,g3,q2⟩;omega
        · obtain⟨rfl,rfl⟩:=Prod.mk.inj q
          have:=a7 _ ⟨j,cj,tj,p1,g4,p2⟩;omega
        · rfl
    have ad:∀ b,Live G1 (st.mu++[Cell.lp C st.tm]) b->Live G st.mu b\/b=w.heap.size+1:=by
      rintro b ⟨j,c,al,g1,g2,g3⟩;rcases a0 j c _ g1 g3 with ⟨q1,q2⟩|⟨rfl,rfl,q⟩
      · exact .inl ⟨j,c,al,q1,g2,q2⟩
      · exact .inr (Prod.mk.inj q).1
    have t1:Stp G st.mu w G1 (st.mu++[Cell.lp C st.tm]) w1:=by
      refine⟨ak,s1,fun b hb _=>aj b hb,zOm,fun b hb=>?_,fun b hb=>?_,by rw[a3];rfl,by rw[a3];rfl,by rw[a3];rfl,by rw[a3];exact qr _⟩
      · rcases ad b hb with h|h
        · exact .inl h
        · exact .inr zOm
      · rw[a4]at hb;exact .inl hb
    have cf:Mk G1 (st.mu++[Cell.lp C st.tm]) w1.heap w.heap.size:=by
      refine⟨cb,fun hb=>?_,fun hb=>?_⟩
      · rcases ad _ hb with h|h
        · have:=a7 _ h;omega
        · omega
      · rw[a4]at hb;have:=sG.imm _ hb;omega
    have bm:JJ n ps a6 J st.tm st.mu.length I 0 (st.mu++[Cell.lp C st.tm]):=by
      refine⟨fn,a.tmps,w.heap.size,by rw[ai];simp,r.size,?_⟩;have:(st.mu++[Cell.lp C st.tm]).set st.mu.length .dead=st.mu++[.dead]:=zSp;rw[this];exact h0
    have bn:∀(X:Mu->Prop) (M:Mu) (c:Cell),Stb X->M[st.mu.length]?=some c->X (M.set st.mu.length .dead)->X ((M++[Cell.dead]).set st.mu.length Cell.dead):=by
      intro X M c hX hM hx;rw[List.set_append_left _ _ (qn.1 hM).1];exact hX _ hx
    have cg:qK P gf (.yl st.mu.length :: av) (st.mu++[Cell.lp C st.tm]) fun e bo=>∃ r,e = .ret r/\(JJ n ps a6 J st.tm st.mu.length I rows.length bo\/JX ps a6 J st.tm st.mu.length Ix bo):=by
      rcases af with ⟨af,hS,ch⟩|af
      rotate_left
      · exact af.2 st.mu.length _ _ (WZ b8 b9 bc be bg bh bb a1) _ bm
      exact af.2 st.mu.length (JJ n ps a6 J st.tm st.mu.length I) (JX ps a6 J st.tm st.mu.length Ix)
       (fun k M ⟨f',t',d',q1,q2,q3⟩=>⟨f',t',d',by rw[qT (qn.1 q1).1];exact q1,q2,bn _ M _ (hS k) q1 q3⟩)
       (fun M ⟨f',t',d',e',c',q1,q2,q3⟩=>⟨f',t',d',e',c',by rw[qT (qn.1 q1).1];exact q1,q2,bn _ M _ (ch e') q1 q3⟩)
       (WZ b8 b9 bc be bg bh bb a1) _ bm
    have b3:zj G1 w1.heap (.yl st.mu.length :: av) (#[Value.func (.yield (w.heap.size+1)) #[] #[]]++ag):=by
      refine⟨by simp[hm];omega,fun k x hx=>?_⟩;cases k with
      |zero =>
        simp at hx;subst hx;have e:(#[Value.func (.yield (w.heap.size+1)) #[] #[]]++ag).getD 0 vd=Value.func (.yield (w.heap.size+1)) #[] #[]:=by
          simp only[qB];rw[Array.getElem?_append_left zSp];simp
        rw[e];exact VRel.yl _ _ 0 a8
      |succ k =>
        have:=(hw k x (zUs hx)).mono ak ab;have e:(#[Value.func (.yield (w.heap.size+1)) #[] #[]]++ag).getD (k+1) vd=ag.getD k vd:=by
          simp only[qB];rw[Array.getElem?_append_right zSp];simp
        rw[e];exact this
    refine⟨w.heap.size+1,[mkOf w.heap.size],w1,⟨.fn (.func gf) ag,#[Value.func (.yield (w.heap.size+1)) #[] #[]]⟩,w1,gf,#[Value.func (.yield (w.heap.size+1)) #[] #[]]++ag,w1,?_,?_,fun _ _=>trivial,?_,fun h=>by simp[WF,Fence.wide]at h,?_⟩
    · rw[a3,<-ai,show (WF ro).round=none from b1.1];exact run_enterLoop_outer fn a.tmps ps a6 J
    · simp only[resolve,qW,U,Deferred.ofValue]
      simp[Act.eval]
    · simp only[invoke]
      exact bj _ w1
    · have aq:=cg.2 G1 w1 _ s1 b3
      have:=(callsIn_wide (n:=0)).2 (aq.mono (R':=rangePost (WF ro) 0 P (w.heap.size+1) QQ { a with defers:=mkOf w.heap.size :: a.defers }) ?_)
      · exact this
      rintro e w3 ⟨G3,a5,t3,bq⟩;have hR:(∃ v,e = .returned v)/\(JJ n ps a6 J st.tm st.mu.length I rows.length a5\/JX ps a6 J st.tm st.mu.length Ix a5):=by
        rcases bq with ⟨rv,v,⟨ck,he,hR⟩,rfl,cx⟩|⟨rv,v,⟨ck,he,_⟩,_⟩
        · exact⟨⟨v,rfl⟩,hR⟩
        · exact absurd he zSp
      clear bq;obtain⟨⟨v,rfl⟩,hR⟩:=hR;have tt:Stp G st.mu w G3 a5 w3:=t1.trans sG t3;have cl:Stp G0 T w0 G3 a5 w3:=r.stp.trans s0 tt;have b4:G3.blk[st.mu.length]?=some (w.heap.size+1,0):=t3.le.blk _ _ a8
      have fin:∀(rc:Loop) (e:qF) (ee:Exit),a5[st.mu.length]?=some (.lp rc st.tm)->fzQ z Q e ⟨st.tm,a5.set st.mu.length .dead⟩->(∀ G w,ERel G w e ee)->QQ ee { a with defers:=mkOf w.heap.size :: a.defers } (w3.putObj (w.heap.size+1) (.loop { rc with state := .exhausted })):=by
        intro rc e ee au cm cn;have cp:=t3.sim.hid_not au zSp b4;have br:=t3.sim.live _ _ _ _ au zSp b4;have td:Stp G0 T w0 G3 (a5.set st.mu.length .dead) w3:=cl.trans s0 (Stp.drop t3.sim st.mu.length);have b5:w0.heap.size<=w.heap.size:=r.stp.size;have tp:Stp G0 T w0 G3 (a5.set st.mu.length .dead) (w3.putObj (w.heap.size+1) (.loop { rc with state := .exhausted })):=by
          refine⟨td.le,td.sim.putOther cp br,fun b b6 hl=>?_,by simpa using td.size,td.live,td.inew,td.tape,td.os,td.output,td.drawn⟩;rw[jQ zOm];exact td.keep b b6 hl
        have an:Ext G3 w3.heap (w3.putObj (w.heap.size+1) (.loop { rc with state := .exhausted })).heap:=
          ⟨zSp,fun b b6=>jQ (fun (e:b=_)=>br (e ▸ b6))⟩
        have bs:∀ D,Mk G1 (st.mu++[Cell.lp C st.tm]) w1.heap D->D≠w.heap.size+1->Mk G3 (a5.set st.mu.length .dead) (w3.putObj (w.heap.size+1) (.loop { rc with state := .exhausted })).heap D:=by
          intro D m cq;have m3:=m.step t3;exact⟨by rw[jQ cq];exact m3.obj,fun h=>m3.nlive h.hid,m3.nimm⟩
        refine hf e ee ⟨st.tm,a5.set st.mu.length .dead⟩ _ _ G3 cm ⟨fun i=>?_,fun _=>?_,r.size,tp,fun p hp=>(tt.vrel sG (r.kp p hp)).mono (.refl G3) an⟩ (cn _ _)
        · exact(tt.vrel sG (r.tm i)).mono (.refl G3) an
        · obtain⟨Ds,⟨cr,_⟩,cs,b7⟩:=r.df b1.1
          have aw:∀ D,D∈Ds->D<w.heap.size:=fun D hD=>(zw.1 (b7 D hD).2.obj).1
          refine⟨w.heap.size :: Ds,⟨zP1 cr,fun h=>by rw[b1.2]at h;cases h⟩,vj.2 ⟨fun h=>absurd (aw _ h) zOm,cs⟩,fun D hD=>?_⟩;rcases qp.1 hD with rfl|hD
          · exact⟨b5,bs _ cf zOm⟩
          · exact⟨(b7 D hD).1,bs _ ((b7 D hD).2.step t1) (zW1 (aw D hD))⟩
      have ao:∀(rc:Loop),a5[st.mu.length]?=some (.lp rc st.tm)->w3.heap[w.heap.size+1]?=some (.loop rc):=by
        intro rc au;obtain⟨o,ho,ct⟩:=t3.sim.obj _ _ _ _ au zSp b4;obtain⟨rfl,_⟩:=ct;exact ho
      rcases hR with ⟨f',t',d',q1,q2,q3⟩|⟨f',t',d',e',c',q1,q2,q3⟩
      · refine⟨_,_,run_endLoop (ao _ q1) zSp,?_⟩
        exact fin _ .normal .normal q1 (bi _ q3) (fun _ _=>trivial)
      · refine⟨_,_,run_endLoop (ao _ q1) zSp,?_⟩
        cases e' with
        |ret =>
          simp only[Qh,qj]at q2;subst q2;exact wpIn_ret (fin _ .ret .ret q1 (ah _ _ q3) (fun _ _=>trivial))
        |exit id =>
          simp only[Qh,qj]at q2;subst q2;exact wpIn_exit (fin _ (.exit id) (.exit id) q1 (ah _ _ q3) (fun _ _=>rfl))
        |normal=>simp[Qh]at q2
        |pan v=>simp[Qh]at q2
  |goto l=>intro ro G0 T w0 s0 Q QQ st a w G hf r hd hn h;exact h.elim
  |refuse cy=>intro ro G0 T w0 s0 Q QQ st a w G hf r hd hn h;exact h.elim
def resV(P:qf)(st:St):ResultVar->Option AV
 | .tmp t=>some (st.tm t)
 | .cell a t=>jR P st.mu t (st.tm a)
def resL(P:qf)(st:St):List ResultVar->Option (List AV)
 | []=>some []
 |r :: g=>match resV P st r,resL P st g with|some x,some J=>some (x :: J)|_,_=>none
def yJ(P:qf)(st:St):List ResultVar->Option AV
 | [r]=>resV P st r
 |g=>(resL P st g).map .tup
def Qi(g:Array j3):ResultVar->Sem j3
 | .tmp t=>pure (g.getD t vd)
 | .cell a t=>do loadVar t (<-asAddr (g.getD a vd))
theorem W3{ro:Ro}{i:Gh}{g:Mu}{j:j2}{n:Nat}{st:St}(r:Rel ro i g j n G st a w){x:ResultVar}{z:AV}(h:resV P st x=some z) :
  ∃ u,(Qi a.tmps x).run P w = .ok u w/\VRel G w.heap z u:=by
 cases x with
 |tmp t=>simp only[resV,qj]at h;subst h;exact⟨_,rfl,r.tm t⟩
 |cell l t =>
  obtain⟨b,u,o,p,C⟩:=UU (P:=P) r.stp.sim (r.tm l) h
  grind [Qi,asAddr,qz,qW,qA]
theorem nK{ro:Ro}{o:Gh}{i:Mu}{p:j2}{n:Nat}{st:St}(r:Rel ro o i p n G st a w):∀(l:List ResultVar) (zs:List AV),resL P st l=some zs ->
  ∃ g:List j3,(l.mapM (Qi a.tmps)).run P w = .ok g w/\g.length=zs.length/\g.length=l.length/\∀(k:Nat) z,zs[k]?=some z->∃ u,g[k]?=some u/\VRel G w.heap z u:=by
 intro l;induction l with
 |nil=>intro zs h;simp only[resL,qj]at h;simp_all
 |cons x l t =>
  intro zs h;simp only[resL]at h;split at h
  .rename_i z j C I
   simp only[qj]at h;subst h;obtain⟨u,g1,U⟩:=W3 r C;obtain⟨g,J,R,T,k4⟩:=t j I;refine⟨u :: g,by simp[List.mapM_cons,g1,J],zP1 R,zP1 T,fun k z' hz=>?_⟩
   grind
  grind
theorem Qj{fn:Func}{ro:Ro}{C:Gh}{j:Mu}{I:j2}{n:Nat}{st:St}(r:Rel ro C j I n G st a w){z:AV}(h:yJ P st fn.results.toList=some z) :
  ∃ u,(results fn a.tmps).run P w = .ok u w/\VRel G w.heap z u:=by
 have i:∀ g:List j3,(fn.results.toList.mapM (Qi a.tmps)).run P w = .ok g w->(results fn a.tmps).run P w = .ok (if h:g.toArray.size=1 then g.toArray[0] else .tuple g.toArray) w:=by
  intro g l;have e:results fn a.tmps=(do let o <-fn.results.mapM (Qi a.tmps);pure (if h:o.size=1 then o[0] else .tuple o)):=rfl;rw[e];simp only[Array.mapM_eq_mapM_toList,qz,Sem.run_map,l,qA,qW]
 unfold yJ at h;split at h
 .rename_i x hx
  obtain⟨u,h1,h2⟩:=W3 r h;simp_all
 .rename_i rs J
  cases p:resL P st fn.results.toList with
  |none=>simp[p]at h
  |some zs =>
   simp only[p,qU,qj]at h;subst h;obtain⟨g,R,T,k3,U⟩:=nK r _ _ p;have t:g.toArray.size≠1:=by
    grind [List.size_toArray,List.length_eq_one_iff]
   refine⟨_,i g R,?_⟩;rw[dif_neg t];refine .tup _ _ (zP1 T) (fun k z hz=>?_);obtain⟨u,hu,hv⟩:=U k z hz;have:g.toArray.getD k vd=u:=by simp[qB,hu]
   rw[this];exact hv
def st0(args:List AV)(mu:Mu):St:=⟨fun i=>(args[i]?).getD (.sc vd),mu⟩
def vV(P:qf)(g:List ResultVar)(R:AEnd->Mu->Prop):qF->St->Prop
 | .normal,st | .ret,st=>OptK (yJ P st g) fun r=>R (.ret r) st.mu
 | .pan v,st=>R (.pan v) st.mu
 | .exit _,_=>False
theorem Rel.left{ro:Ro}(o:ro.rd=none){C:Gh}{j:Mu}{I:j2}{n:Nat}{G:Gh}{st:St}{a:Act}{w:j2}(r:Rel ro C j I n G st a w):∃(g:List Nat),a.defers=g.map mkOf++ro.dl/\g.Nodup/\(∀ D,D∈g->w.heap[D]?=some (.deferred (some []))) /\
  Rel ro C j I n G st { a with defers:=ro.dl } (jV g w)/\∀ x v,VRel G w.heap x v->VRel G (jV g w).heap x v:=by
 obtain⟨g,⟨R,_⟩,J,P⟩:=r.df o;obtain⟨T,t⟩:=WI g w J P r.stp;exact⟨g,R,J,fun D U=>(P D U).2.obj,⟨fun i=>(r.tm i).mono (.refl G) t,fun _=>Dfs.nil _ _ _ _ _ _,r.size,T,fun p hp=>(r.kp p hp).mono (.refl G) t⟩,fun x v h=>h.mono (.refl G) t⟩
theorem fA{ro:Ro}{fn:Func}{vs:Array j3}(s:Sim G mu w.heap)(j:zj G w.heap args vs)(I:args.length<=fn.ntmps)(l:ro.dl=[]:=by rfl)(o:ro.kp=[]:=by rfl) :
  Rel ro G mu w fn.ntmps G (st0 args mu) { tmps:=vs++Array.replicate (fn.ntmps-vs.size) vd,defers:=[] } w:=by
 have J:vs.size<=fn.ntmps:=by rw[j.1];exact I
 refine⟨fun i=>?_,fun _=>⟨[],⟨zP1 l,fun _=>rfl⟩,List.nodup_nil,zSp⟩,zSo,Stp.refl s,fun p t=>by rw[o]at t;simp at t⟩;simp only[st0];by_cases P:i<args.length
 .have C:args[i]?=some args[i]:=by simp[P]
  have e:(vs++Array.replicate (fn.ntmps-vs.size) vd).getD i vd=vs.getD i vd:=by
   simp only[qB]
   grind
  rw[C,e];exact j.2 i _ C
 .rw [List.getElem?_eq_none zOm]
  have e:(vs++Array.replicate (fn.ntmps-vs.size) vd).getD i vd=vd:=by
   simp only[qB];rw[Array.getElem?_append_right (by rw[j.1];omega),Array.getElem?_replicate];split<;>rfl
  rw[e];exact .sc _ rfl
theorem qK.of_awp{fn:Func}(g:zO P f)(hf:P.funcs[f]?=some fn)(hb:fn.body=some c)
  (hn:args.length<=fn.ntmps) (hd:dOkC fn.ntmps c=true) (h:awp P pl c (vV P fn.results.toList R) (st0 args mu)):qK P f args mu R:=by
 refine⟨g,fun G w o s ra=>?_⟩;refine(callsIn_wide (n:=0)).1 (callsIn_of_wp_marks hf hb trivial ?_);refine J6 (n:=fn.ntmps) c (ro:=Ro.fn) s _ _ (st0 args mu) _ w G ?_ ?_ hd (.inl ⟨rfl,rfl⟩) h
 .intro ae e st a l p j r U
  obtain⟨Ds,g1,g2,g3,i,t⟩:=r.left rfl;have key:∀(u:FrameMode) (R:Ending->j2->Prop),u ≠ .run->LeavesIn Fence.wide 0 P fn a.tmps R [] u (jV Ds l)->LeavesInM Fence.wide 0 P fn a.tmps R a.defers u l:=by
   intro u R hu hl;rw[g1];exact JP hu Ds l g2 g3 hl
  cases ae<;>cases e<;>simp only[ERel]at U
  .obtain ⟨z,C,I⟩:=j
   obtain⟨u,J,T⟩:=Qj i C;exact key .returning _ zSp ⟨u,J,p,st.mu,i.stp,.inl ⟨z,u,I,rfl,T⟩⟩
  .exact j.elim
  .obtain ⟨z,C,I⟩:=j
   obtain⟨u,J,T⟩:=Qj i C;exact key .returning _ zSp ⟨u,J,p,st.mu,i.stp,.inl ⟨z,u,I,rfl,T⟩⟩
  .obtain ⟨v,rfl,hv⟩:=U
   exact key (.panicking _) _ zSp ⟨p,st.mu,i.stp,.inr ⟨_,v,j,rfl,t _ _ hv⟩⟩
 .exact fA s ra hn
theorem Sim.empty{g:Nat->Prop}{h:Array Obj}(l:∀ b,g b->b<h.size)(o:vN g h):Sim ⟨g,[]⟩ [] h:=
 ⟨rfl,l,fun i c b t h=>by simp at h,fun i c b t h=>by simp at h,fun i j ci p b t r h=>by simp at h,o⟩
theorem qd.of_sound(h:qK P f args [] fun e p=>∃ I,e = .ret I/\Rd p I r):qd P f args r:=by
 obtain⟨l,h⟩:=h;refine⟨l,fun C w o hi ra=>?_⟩;refine(h ⟨C,[]⟩ w o hi ra).mono fun e w' ⟨T,p,st,hR⟩=>?_
 have g:∀ b,¬Live ⟨C,[]⟩ [] b:=fun b ⟨i,c,t,hc,_⟩=>by simp at hc
 rcases hR with ⟨I,v,⟨J,U,R⟩,rfl,hv⟩|⟨I,v,⟨J,U,_⟩,_⟩
 .cases U
  refine⟨fun b=>T.imm b\/Live T p b,v,rfl,fun b j => .inl (st.le.imm b j),fun b j=>?_,⟨⟨st.os,st.tape,st.output,st.size,fun k hk=>st.keep k hk (g k)⟩,st.drawn⟩,R.sound st.sim hv⟩;rcases j with j|j
  .refine ⟨st.sim.imm b j,?_⟩
   rcases st.inew b j with h|h|h
   .exact .inl h
   .exact absurd h (g b)
   .exact .inr h
  .refine ⟨st.sim.livesize j,?_⟩
   rcases st.live b j with h|h
   .exact absurd h (g b)
   .exact .inr h
 grind
theorem qSW{fn:Func}(g:zO P f)(hf:P.funcs[f]?=some fn)(i:fn.body=some c)(pl:Pol)(h:awp P pl c (vV P fn.results.toList R) (st0 args mu))(j:Nat.ble args.length fn.ntmps=true:=by kernel_rfl)(l:dOkC fn.ntmps c=true:=by kernel_rfl):qK P f args mu R:=qK.of_awp g hf i (Nat.le_of_ble_eq_true j) l h
theorem qSQ{fn:Func}(g:zO P f)(hf:P.funcs[f]?=some fn)(j:fn.body=some c)(pl:Pol)(h:awp P pl c (vV P fn.results.toList fun e p=>∃ i,e = .ret i/\Rd p i r) (st0 args []))(l:Nat.ble args.length fn.ntmps=true:=by kernel_rfl)(o:dOkC fn.ntmps c=true:=by kernel_rfl):qd P f args r:=qd.of_sound (qSW g hf j pl h l o)
theorem qSV{fn:Func}(g:zO P f)(hf:P.funcs[f]?=some fn)(j:fn.body=some c)(h:awp P {} c (vV P fn.results.toList fun e p=>∃ i,e = .ret i/\Rd p i r) (st0 args []))(l:Nat.ble args.length fn.ntmps=true:=by kernel_rfl)(o:dOkC fn.ntmps c=true:=by kernel_rfl):qd P f args r:=qd.of_sound (qSW g hf j {} h l o)
theorem qSU{fn:Func}{Q:Prop}(g:zO P f)(hf:P.funcs[f]?=some fn)(j:fn.body=some c)(k:Q)(e:awp P {} c (vV P fn.results.toList fun e p=>∃ i,e = .ret i/\Rd p i r) (st0 args [])=Q:=by simp[go_sem];rfl)(l:Nat.ble args.length fn.ntmps=true:=by kernel_rfl)(o:dOkC fn.ntmps c=true:=by kernel_rfl):qd P f args r:=qSV g hf j (e.mpr k) l o
def RdN(mu:Mu)(x y:AV):Prop:=∀(G:Gh) (h:Array Obj) (v:j3),Sim G mu h->VRel G h x v->VRel ⟨Live G mu,[]⟩ h y v
theorem RdN.sl{b sz off len:Nat}{cells:List AV}{ys:List (List AV)}(t:mu[b]?=some (.arr cells))(hl:off+len*sz<=cells.length)(J:ys.length=len)(C:ya sz ys)
  (hf:∀(k:Nat) y,ys.flatten[k]?=some y->FL y) (h:∀(k:Nat) x y,cells[off+k]?=some x->ys.flatten[k]?=some y->x=y):RdN mu (.sl b sz off len) (.lst false ys):=by
 intro G hp v s r;subst J;cases r with
 |sl _ _ _ _ i j cap I ht l =>
 obtain⟨arr,e,P,h2,h3,R⟩:=s.arr b cells i j t I;by_cases T:ys=[]
 .subst T;exact .emp false _ cap zSp
 .have U:=z2 C
  have g:∀(k:Nat) y,ys.flatten[k]?=some y->∃ x,cells[off+k]?=some x:=by
   grind
  refine .lst false ys sz ⟨i,off,none⟩ cap arr e (0,0) (fun k=>arr.getD (off+k) vd) P rfl l zSp ⟨b,_,j,t,zSp,I⟩ C ?_ ?_
  .intro k y o
   obtain⟨x,p⟩:=g k y o;have:off+k<arr.size:=by grind
   simp_all
  .intro k y o
   obtain⟨x,p⟩:=g k y o;have:=h k x y p o;subst this;exact hf k x o _ _ _ _ _ (R _ x p).2
end
end Go.Ev
namespace Go.Ev
open Go Go.RowKit
section
variable {g:AV->St->Prop}{l:List wx}
theorem eqS{C:Sort _}{a b:C}(h:a=b):a=b:=h
abbrev aI(n:Int):AV := .sc (.int .i64 n)
abbrev aB(b:Bool):AV := .sc (.bool b)
def panQ(Q:qF->St->Prop):AV->St->Prop:=fun v st=>Q (.pan v) st
def retK(R:AEnd->Mu->Prop)(m:Mu):AV->Prop:=fun r=>R (.ret r) m
def ql(P:qf)(pl:Pol)(l:List wx)(Q:St->Prop)(i:AV->St->Prop)(st:St):Prop:=∃ g,Fz st g/\ZR P pl l.toArray Q i g
theorem aQ{P:qf}{pl:Pol}{Q:St->Prop}{st:St}(h:uZ pl l.toArray=true)(k:awpS P pl true l.toArray l Q g st):ql P pl l Q g st:=⟨st,.refl st,.inl (.inl ⟨h,k⟩)⟩
theorem fP{P:qf}{pl:Pol}{Q:St->Prop}{st:St}{R:Prop}(k:R)(h:uZ pl l.toArray=true:=by kernel_rfl)(e:awpS P pl true l.toArray l Q g st=R:=by simp[go_sem];rfl):ql P pl l Q g st:=aQ h (e.mpr k)
theorem ql.tail{P:qf}{pl:Pol}{Q:St->Prop}{st:St}(n:Nat)(h:JZ pl l.toArray n=true)(k:awpS P pl true l.toArray (l.take n) (fun st=>awpS P pl false l.toArray (l.drop n) Q g st) g st):ql P pl l Q g st:=
 ⟨st,.refl st,.inl (.inr (.inl ⟨n,h,k⟩))⟩
@[go_sem ↓] theorem sameK_eq(st:St)(d:Tmp)(mu:Mu)(v:AV)(m:Mu):um st d mu v m=(v=st.tm d/\m=mu):=eqS rfl
def panT(g:AV->St->Prop):AV->Mu->Prop:=fun v m=>∀ i,g v ⟨i,m⟩
theorem fD{P:qf}{pl:Pol}{Q:St->Prop}{st:St}(O:List Nat)(T:List (Nat×Nat×List Nat))(h:Qg pl l.toArray O=true)(hT:plan pl l.toArray [] O=T)(i:jX P l.toArray T)(k:awpT P pl l.toArray Q g T st):ql P pl l Q g st:=by
 subst hT;exact⟨st,.refl st,.inr ⟨O,h,i,k⟩⟩
def newO(P:qf):Nat->Option wx->Prop
 | 2,some o=>(match o.op with | .alloc e=>OptK (qv P e) fun z=>z.cells.all AV.one=true|_=>False)
 |_,_=>True
@[go_sem ↓] theorem newOk_nil(P:qf)(ops:Array wx):jX P ops []=True:=eqS rfl
@[go_sem ↓] theorem qgA(P:qf)(l:List wx)(j k:Nat)(r:List Nat)(T:List (Nat×Nat×List Nat)):jX P l.toArray ((j,k,r) :: T)=(newO P k l[j]?/\jX P l.toArray T):=by
 show ((match k,l.toArray[j]? with|2,some o=>(match o.op with | .alloc e=>OptK (qv P e) fun z=>z.cells.all AV.one=true|_=>False)|_,_=>True)/\jX P l.toArray T)=_;rw[ju];congr 1
@[go_sem ↓] theorem newO_0(P:qf)(o:Option wx):newO P 0 o=True:=eqS rfl
@[go_sem ↓] theorem newO_1(P:qf)(o:Option wx):newO P 1 o=True:=eqS rfl
@[go_sem ↓] theorem newO_2(P:qf)(i:Option Tmp)(e:j1)(ty:j1)(pos:String)(after:Array Edge)(g:Option (Nat×Bool)):newO P 2 (some ⟨i,.alloc e,ty,pos,after,g⟩)=OptK (qv P e) (fun z=>z.cells.all AV.one=true):=eqS rfl
def segK(P:qf)(pl:Pol)(l:List wx)(Q:St->Prop)(i:AV->St->Prop)(r:List Nat)(T:List (Nat×Nat×List Nat))(g:Option Tmp)(st:St):AV->Mu->Prop:=fun v m=>jk P pl l.toArray r (st.put g v m)/\awpT P pl l.toArray Q i T (st.put g v m)
def segP(g:AV->St->Prop)(k:Nat):AV->Mu->Prop:=fun v m=>k=1/\∀ i,g v ⟨i,m⟩
def segO(P:qf)(pl:Pol)(l:List wx)(Q:St->Prop)(g:AV->St->Prop)(k:Nat)(r:List Nat)(T:List (Nat×Nat×List Nat))(st:St):Option wx->Prop
 |none=>False
 |some o=>OptK (zp l.toArray st o) fun b=>Br b (qt P pl (k != 1) o.dst o.op st.ev st.mu (segK P pl l Q g r T o.dst st) (segP g k)) (awpT P pl l.toArray Q g T (st.put o.dst (.sc vd) st.mu))
@[go_sem ↓] theorem awpT_nil(P:qf)(pl:Pol)(ops:Array wx)(Q:St->Prop)(g:AV->St->Prop)(st:St):awpT P pl ops Q g [] st=Q st:=eqS rfl
@[go_sem ↓] theorem awpT_cons(P:qf)(pl:Pol)(l:List wx)(Q:St->Prop)(g:AV->St->Prop)(j k:Nat)(r:List Nat)(T:List (Nat×Nat×List Nat))(st:St):awpT P pl l.toArray Q g ((j,k,r) :: T) st=segO P pl l Q g k r T st l[j]?:=by
 show (match l.toArray[j]? with|none=>False|some o=>OptK (zp l.toArray st o) fun b=>Br b (qt P pl (k != 1) o.dst o.op st.ev st.mu (fun v m=>jk P pl l.toArray r (st.put o.dst v m)/\awpT P pl l.toArray Q g T (st.put o.dst v m)) (fun v m=>k=1/\∀ i,g v ⟨i,m⟩)) (awpT P pl l.toArray Q g T (st.put o.dst (.sc vd) st.mu)))=_;rw[ju];cases l[j]?<;>rfl
@[go_sem ↓] theorem segO_0(P:qf)(pl:Pol)(l:List wx)(Q:St->Prop)(i:AV->St->Prop)(r:List Nat)(T:List (Nat×Nat×List Nat))(st:St)(g:Option Tmp)(op:Op)(ty:j1)(pos:String)(after:Array Edge) :
  segO P pl l Q i 0 r T st (some ⟨g,op,ty,pos,after,none⟩)=qt P pl true g op st.ev st.mu (segK P pl l Q i r T g st) noK:=by
 have:segP i 0=noK:=by funext v m;simp[segP,noK]
 show OptK (some true) (fun b=>Br b (qt P pl true g op st.ev st.mu (segK P pl l Q i r T g st) (segP i 0)) _)=_;rw[this];simp[OptK,Br]
@[go_sem ↓] theorem segO_1(P:qf)(pl:Pol)(l:List wx)(Q:St->Prop)(i:AV->St->Prop)(r:List Nat)(T:List (Nat×Nat×List Nat))(st:St)(g:Option Tmp)(op:Op)(ty:j1)(pos:String)(after:Array Edge) :
  segO P pl l Q i 1 r T st (some ⟨g,op,ty,pos,after,none⟩)=qt P pl false g op st.ev st.mu (segK P pl l Q i r T g st) (panT i):=by
 have:segP i 1=panT i:=by funext v m;simp[segP,panT]
 show OptK (some true) (fun b=>Br b (qt P pl false g op st.ev st.mu (segK P pl l Q i r T g st) (segP i 1)) _)=_;rw[this];simp[OptK,Br]
@[go_sem ↓] theorem segO_2(P:qf)(pl:Pol)(l:List wx)(Q:St->Prop)(i:AV->St->Prop)(r:List Nat)(T:List (Nat×Nat×List Nat))(st:St)(g:Option Tmp)(op:Op)(ty:j1)(pos:String)(after:Array Edge) :
  segO P pl l Q i 2 r T st (some ⟨g,op,ty,pos,after,none⟩)=qt P pl true g op st.ev st.mu (segK P pl l Q i r T g st) noK:=by
 have:segP i 2=noK:=by funext v m;simp[segP,noK]
 show OptK (some true) (fun b=>Br b (qt P pl true g op st.ev st.mu (segK P pl l Q i r T g st) (segP i 2)) _)=_;rw[this];simp[OptK,Br]
@[go_sem ↓] theorem segK_eq(P:qf)(pl:Pol)(l:List wx)(Q:St->Prop)(i:AV->St->Prop)(r:List Nat)(T:List (Nat×Nat×List Nat))(g:Option Tmp)(st:St)(v:AV)(m:Mu):segK P pl l Q i r T g st v m=(jk P pl l.toArray r (st.put g v m)/\awpT P pl l.toArray Q i T (st.put g v m)):=eqS rfl
@[go_sem ↓] theorem qgB(P:qf)(pl:Pol)(ops:Array wx)(st:St):jk P pl ops [] st=True:=eqS rfl
def ZS(P:qf)(pl:Pol)(l:List wx)(st:St):Option wx->Prop
 |some o=>OptK (zp l.toArray st o) fun b=>Br b (uo P pl o st) True
 |none=>True
@[go_sem ↓] theorem qgC(P:qf)(pl:Pol)(l:List wx)(p:Nat)(r:List Nat)(st:St):jk P pl l.toArray (p :: r) st=(ZS P pl l st l[p]?/\jk P pl l.toArray r st):=by
 show ((match l.toArray[p]? with|some o=>OptK (zp l.toArray st o) (fun b=>Br b (uo P pl o st) True)|none=>True)/\jk P pl l.toArray r st)=_;rw[ju];cases l[p]?<;>rfl
@[go_sem ↓] theorem qgD(P:qf)(pl:Pol)(l:List wx)(st:St)(d:Tmp)(op:Op)(ty:j1)(pos:String)(after:Array Edge):ZS P pl l st (some ⟨some d,op,ty,pos,after,none⟩)=qt P pl true (some d) op st.ev st.mu (um st d st.mu) noK:=by
 show OptK (some true) (fun b=>Br b (qt P pl true (some d) op st.ev st.mu (um st d st.mu) noK) True)=_;simp[OptK,Br]
def qk(P:qf)(pl:Pol)(g:Code)(Q:qF->St->Prop)(st:St):Prop:=∃(z:Bool) (I:Nat->St->Prop) (n:Nat) (i:St),Fz st i/\I n i/\∀ n st,I n st->awp P pl g (vU I n (fzQ z Q)) st
theorem aZ{P:qf}{pl:Pol}{g:Code}{Q:qF->St->Prop}{st:St}(I:Nat->St->Prop)(n:Nat)(h:I n st)(k:∀ n st,I n st->awp P pl g (vU I n Q) st):qk P pl g Q st:=⟨false,I,n,st,.refl st,h,k⟩
def jY(P:qf)(pl:Pol)(g:AV)(ps:Array Tmp)(o l:Code)(Q:qF->St->Prop)(st:St):Prop:=
 ∃(z:Bool) (r:us) (i:List AV) (rows:List (List AV)) (I:Nat->Mu->Prop) (p:qF->Mu->Prop),
   g = .fn (.func r) [] i/\WX P r i rows I p/\I 0 (st.mu++[.dead]) /\
   (∀ k x j,rows[k]?=some x->I k j->x.length=ps.size/\awp P pl o (asQ (fun st=>awp P pl l (rndQ I p k) st)) ⟨jy st.tm ps.toList x,j⟩) /\
   (∀ j,I rows.length j->fzQ z Q .normal ⟨st.tm,j⟩)/\(∀ e j,p e j->fzQ z Q e ⟨st.tm,j⟩)
theorem cS{P:qf}{pl:Pol}{l:us}{caps:List AV}{ps:Array Tmp}{i g:Code}{Q:qF->St->Prop}{st:St}{rows:List (List AV)}(o:yI P l caps rows)(I:Nat->Mu->Prop)(j:qF->Mu->Prop)
  (p:I 0 (st.mu++[.dead])) (r:∀ k mu,I k mu->I k (mu++[.dead])) (t:∀ e mu,j e mu->j e (mu++[.dead]))
  (C:∀ k x mu,rows[k]?=some x->I k mu->x.length=ps.size/\awp P pl i (asQ (fun st=>awp P pl g (rndQ I j k) st)) ⟨jy st.tm ps.toList x,mu⟩)
  (J:∀ mu,I rows.length mu->Q .normal ⟨st.tm,mu⟩) (R:∀ e mu,j e mu->Q e ⟨st.tm,mu⟩):jY P pl (.fn (.func l) [] caps) ps i g Q st:=
 ⟨false,l,caps,rows,I,j,rfl,.inl ⟨o,r,t⟩,p,C,J,R⟩
@[go_sem] theorem setPs_nil(g:Nat->AV)(xs:List AV):jy g [] xs=g:=eqS (by cases xs<;>rfl)
@[go_sem] theorem qgE(g:Nat->AV)(t:Tmp)(ts:List Tmp)(x:AV)(xs:List AV):jy g (t :: ts) (x :: xs)=jy (fun i=>if i=t then x else g i) ts xs:=eqS rfl
@[go_sem] theorem qgF(n:St->Prop)(st:St):asQ n .normal st=n st:=eqS rfl
@[go_sem] theorem qgG(I:Nat->Mu->Prop)(g:qF->Mu->Prop)(k:Nat)(st:St):rndQ I g k .normal st=I (k+1) st.mu:=eqS rfl
@[go_sem] theorem rndQ_ret(I:Nat->Mu->Prop)(g:qF->Mu->Prop)(k:Nat)(st:St):rndQ I g k .ret st=g .ret st.mu:=eqS rfl
section
variable (P:qf) (pl:Pol) (Q:qF->St->Prop) (st:St)
@[go_sem ↓] theorem awp_skip:awp P pl .skip Q st=Q .normal st:=eqS rfl
@[go_sem ↓] theorem awp_exit(id:Nat):awp P pl (.exit id) Q st=Q (.exit id) st:=eqS rfl
@[go_sem ↓] theorem awp_ret:awp P pl .ret Q st=Q .ret st:=eqS rfl
@[go_sem ↓] theorem awp_seq(a b:Code):awp P pl (.seq a b) Q st=awp P pl a (seqQ (awp P pl b Q) Q) st:=eqS rfl
@[go_sem ↓] theorem awp_block(id:Nat)(b:Code):awp P pl (.block id b) Q st=awp P pl b (vT id Q) st:=eqS rfl
@[go_sem ↓] theorem awp_loop(b:Code):awp P pl (.loop b) Q st=qk P pl b Q st:=eqS rfl
@[go_sem ↓] theorem qgH(g:uk)(ps:Array Tmp)(j i:Code):awp P pl (.rangeFunc g ps j i) Q st=jY P pl (st.ev g) ps j i Q st:=eqS rfl
@[go_sem ↓] theorem qgI(id:Nat)(l:List wx):awp P pl (.region id l.toArray false) Q st=awpS P pl false l.toArray l (Q .normal) (panQ Q) st:=
 propext ⟨fun h=>by rcases h with ⟨_,h⟩|⟨e,_⟩;exact h;exact absurd e zSp,fun h => .inl ⟨rfl,h⟩⟩
@[go_sem ↓] theorem qgJ(id:Nat)(l:List wx):awp P pl (.region id l.toArray true) Q st=ql P pl l (Q .normal) (panQ Q) st:=
 propext ⟨fun h=>by rcases h with ⟨e,_⟩|⟨_,h⟩;exact absurd e zSp;exact h,fun h => .inr ⟨rfl,h⟩⟩
def BrS(b:Bool)(p q:St->Prop)(st:St):Prop:=Br b (p st) (q st)
@[go_sem ↓] theorem BrS_true(p q:St->Prop):BrS true p q st=p st:=by simp[BrS,Br]
@[go_sem ↓] theorem BrS_false(p q:St->Prop):BrS false p q st=q st:=by simp[BrS,Br]
@[go_sem] theorem BrS_true'(p q:St->Prop):BrS true p q st=p st:=by simp[BrS,Br]
@[go_sem] theorem qgK(p q:St->Prop):BrS false p q st=q st:=by simp[BrS,Br]
theorem cT{b:Bool}{p q:St->Prop}{st:St}(g:b=true->p st)(i:b=false->q st):BrS b p q st:=⟨g,i⟩
def J7(v:AV)(p q:St->Prop)(st:St):Prop:=∃ t,v = .sc (.bool t)/\Br t (p st) (q st)
@[go_sem ↓] theorem awp_cond(c:uk)(a b:Code):awp P pl (.cond c a b) Q st=J7 (st.ev c) (awp P pl a Q) (awp P pl b Q) st:=eqS rfl
@[go_sem] theorem qgL(t:Bool)(p q:St->Prop):J7 (.sc (.bool t)) p q st=BrS t p q st:=by
 simp[J7,BrS]
@[go_sem ↓] theorem qgM(n:St->Prop):seqQ n Q .normal st=n st:=eqS rfl
@[go_sem ↓] theorem seqQ_exit(n:St->Prop)(i:Nat):seqQ n Q (.exit i) st=Q (.exit i) st:=eqS rfl
@[go_sem ↓] theorem seqQ_ret(n:St->Prop):seqQ n Q .ret st=Q .ret st:=eqS rfl
@[go_sem ↓] theorem qgN(i:Nat):vT i Q .normal st=Q .normal st:=eqS rfl
@[go_sem ↓] theorem qgO(i j:Nat):vT j Q (.exit i) st=if i=j then Q .normal st else Q (.exit i) st:=eqS rfl
@[go_sem ↓] theorem qgP(i:Nat):vT i Q .ret st=Q .ret st:=eqS rfl
@[go_sem ↓] theorem qgQ(I:Nat->St->Prop)(n:Nat):vU I n Q .normal st=∃ m,m<n/\I m st:=eqS rfl
@[go_sem ↓] theorem qgR(I:Nat->St->Prop)(n i:Nat):vU I n Q (.exit i) st=Q (.exit i) st:=eqS rfl
@[go_sem ↓] theorem loopQ_ret(I:Nat->St->Prop)(n:Nat):vU I n Q .ret st=Q .ret st:=eqS rfl
@[go_sem ↓] theorem qgS(g:List ResultVar)(R:AEnd->Mu->Prop):vV P g R .normal st=OptK (yJ P st g) (retK R st.mu):=eqS rfl
@[go_sem ↓] theorem PostQ_ret(g:List ResultVar)(R:AEnd->Mu->Prop):vV P g R .ret st=OptK (yJ P st g) (retK R st.mu):=eqS rfl
@[go_sem ↓] theorem retK_eq(R:AEnd->Mu->Prop)(m:Mu)(r:AV):retK R m r=R (.ret r) m:=eqS rfl
@[go_sem] theorem qgT(r:ResultVar):yJ P st [r]=resV P st r:=eqS rfl
@[go_sem] theorem qgU:yJ P st []=some (.tup []):=eqS rfl
@[go_sem] theorem qgV(r s:ResultVar):yJ P st [r,s]=(match resV P st r,resV P st s with|some x,some y=>some (.tup [x,y])|_,_=>none):=by
 grind [yJ,resL,resV]
@[go_sem] theorem resV_tmp(t:Tmp):resV P st (.tmp t)=some (st.tm t):=eqS rfl
@[go_sem] theorem resV_cell(a:Tmp)(t:j1):resV P st (.cell a t)=jR P st.mu t (st.tm a):=eqS rfl
end
end
section
variable {α:Type}
@[go_sem] theorem OptK_some(v:α)(k:α->Prop):OptK (some v) k=k v:=by simp[OptK]
theorem cK{o:Option α}{k:α->Prop}(v:α)(h:o=some v)(g:k v):OptK o k:=⟨v,h,g⟩
end
section
variable (P:qf) (pl:Pol) (det:Bool) (ops:Array wx) (Q:St->Prop) (Qp:AV->St->Prop) (st:St)
def ZT(P:qf)(pl:Pol)(det:Bool)(ops:Array wx)(l:List wx)(Q:St->Prop)(Qp:AV->St->Prop)(st:St)(g:Option Tmp):AV->Mu->Prop:=fun v m=>awpS P pl det ops l Q Qp (st.put g v m)
def panS(Qp:AV->St->Prop)(st:St):AV->Mu->Prop:=fun v m=>Qp v ⟨st.tm,m⟩
@[go_sem ↓] theorem contK_eq(l:List wx)(g:Option Tmp)(v:AV)(m:Mu):ZT P pl det ops l Q Qp st g v m=awpS P pl det ops l Q Qp (st.put g v m):=eqS rfl
@[go_sem ↓] theorem awpS_nil:awpS P pl det ops [] Q Qp st=Q st:=eqS rfl
@[go_sem ↓] theorem qgW(g:Option Tmp)(op:Op)(ty:j1)(pos:String)(after:Array Edge)(l:List wx):awpS P pl det ops (⟨g,op,ty,pos,after,none⟩ :: l) Q Qp st =
  qt P pl det g op st.ev st.mu (ZT P pl det ops l Q Qp st g) (panS Qp st):=by
 simp[awpS,zp,OptK,Br];rfl
def runK(P:qf)(pl:Pol)(det:Bool)(ops:Array wx)(g:Option Tmp)(op:Op)(l:List wx)(Q:St->Prop)(Qp:AV->St->Prop):St->Prop:=fun st=>qt P pl det g op st.ev st.mu (ZT P pl det ops l Q Qp st g) (panS Qp st)
def W4(P:qf)(pl:Pol)(det:Bool)(ops:Array wx)(g:Option Tmp)(l:List wx)(Q:St->Prop)(Qp:AV->St->Prop):St->Prop:=fun st=>awpS P pl det ops l Q Qp (st.put g (.sc vd) st.mu)
@[go_sem ↓] theorem runK_eq(g:Option Tmp)(op:Op)(l:List wx):runK P pl det ops g op l Q Qp st=qt P pl det g op st.ev st.mu (ZT P pl det ops l Q Qp st g) (panS Qp st):=eqS rfl
@[go_sem ↓] theorem passK_eq(g:Option Tmp)(l:List wx):W4 P pl det ops g l Q Qp st=awpS P pl det ops l Q Qp (st.put g (.sc vd) st.mu):=eqS rfl
def brK(p q:St->Prop)(st:St):Bool->Prop:=fun b=>BrS b p q st
@[go_sem ↓] theorem brK_eq(p q:St->Prop)(b:Bool):brK p q st b=BrS b p q st:=eqS rfl
def uq(d:Option Tmp)(st:St)(g:Bool)(p q:St->Prop):Prop:=OptK (match d with|none=>some false|some d=>ul (st.tm d) g) (brK p q st)
@[go_sem ↓] theorem qgX(i:Option Tmp)(op:Op)(ty:j1)(pos:String)(after:Array Edge)(l:List wx)(j:Nat)(g:Bool)(ol:List wx) :
  awpS P pl det ol.toArray (⟨i,op,ty,pos,after,some (j,g)⟩ :: l) Q Qp st=uq ((ol[j]?).bind (·.dst)) st g (runK P pl det ol.toArray i op l Q Qp) (W4 P pl det ol.toArray i l Q Qp):=by
 simp only[awpS,zp,uq,ju];rfl
@[go_sem] theorem qgY(d:Tmp)(g:Bool)(p q:St->Prop):uq (some d) st g p q=OptK (ul (st.tm d) g) (brK p q st):=eqS rfl
@[go_sem] theorem qgZ(b g:Bool):ul (.sc (.bool b)) g=some (b == g):=eqS rfl
@[go_sem] theorem qg0(g:Bool):ul (.sc vd) g=some false:=eqS rfl
end
def plc(l:List (Nat×Nat)):Nat->Option (Nat×Nat):=fun i=>l.toArray[i]?
def plA(s:Nat):Nat->Option (Nat×Nat):=fun i=>some (i*s,s)
@[go_sem] theorem plc_zero(p:Nat×Nat)(l:List (Nat×Nat)):plc (p :: l) 0=some p:=by simp[plc]
@[go_sem] theorem plc_succ(p:Nat×Nat)(l:List (Nat×Nat))(i:Nat):plc (p :: l) (i+1)=plc l i:=by simp[plc]
@[go_sem] theorem plA_eq(s i:Nat):plA s i=some (i*s,s):=eqS rfl
section
variable (st:St) (v:AV) (m:Mu)
@[go_sem] theorem put_tm(d i:Tmp):(st.put (some d) v m).tm i=if i=d then v else st.tm i:=eqS rfl
@[go_sem] theorem qg1(i:Tmp):(st.put none v m).tm i=st.tm i:=eqS rfl
@[go_sem] theorem jz(d:Option Tmp):(st.put d v m).mu=m:=eqS rfl
@[go_sem] theorem st0_tm(args:List AV)(i:Tmp):(st0 args m).tm i=(args[i]?).getD (.sc vd):=eqS rfl
@[go_sem] theorem st0_mu(args:List AV):(st0 args m).mu=m:=eqS rfl
@[go_sem] theorem ev_tmp(t:Tmp):st.ev (.tmp t)=st.tm t:=eqS rfl
@[go_sem] theorem ev_const(c:j3):st.ev (.const c)=ofV c:=eqS rfl
@[go_sem] theorem ev_func(f:us):st.ev (.func f) = .fn (.func f) [] []:=eqS rfl
@[go_sem] theorem ofV_int(k:IntKind)(n:Int):ofV (.int k n) = .sc (.int k n):=eqS rfl
@[go_sem] theorem ofV_bool(b:Bool):ofV (.bool b) = .sc (.bool b):=eqS rfl
@[go_sem] theorem qg2(s:cD):ofV (.string s) = .sc (.string s):=eqS rfl
@[go_sem] theorem qg3:ofV (.slice none 0 0) = .lst true []:=eqS rfl
@[go_sem] theorem qg4:ofV .nilIface = .sc .nilIface:=eqS rfl
@[go_sem] theorem qg5:ofV .nilFunc = .sc .nilFunc:=eqS rfl
end
section
variable (P:qf) (pl:Pol) (det:Bool) (dst:Option Tmp) (ev:uk->AV) (mu:Mu) (K Kp:AV->Mu->Prop)
def km(K:AV->Mu->Prop)(mu:Mu):AV->Prop:=fun z=>K z mu
def ks(K:AV->Mu->Prop):Mu->Prop:=fun m=>K (.sc vd) m
def kp(K:AV->Mu->Prop):AV×Mu->Prop:=fun z=>K z.1 z.2
def W5(K:AV->Mu->Prop)(mu:Mu):AV->Prop:=fun z=>z.cells.all AV.one=true/\K (.ptr mu.length 0) (mu++[.arr z.cells])
@[go_sem ↓] theorem km_eq(z:AV):km K mu z=K z mu:=eqS rfl
@[go_sem ↓] theorem ks_eq(m:Mu):ks K m=K (.sc vd) m:=eqS rfl
@[go_sem ↓] theorem kp_eq(z:AV)(m:Mu):kp K (z,m)=K z m:=eqS rfl
@[go_sem ↓] theorem allocK_eq(z:AV):W5 K mu z=(z.cells.all AV.one=true/\K (.ptr mu.length 0) (mu++[.arr z.cells])):=eqS rfl
@[go_sem ↓] theorem qg6(x:uk):qt P pl det dst (.move x) ev mu K Kp=K (ev x) mu:=eqS rfl
@[go_sem ↓] theorem qg7(x:uk):qt P pl det dst (.assign x) ev mu K Kp=K (ev x) mu:=eqS rfl
def J8(v a b:AV)(k:AV->Prop):Prop:=∃ t,v = .sc (.bool t)/\k (if t then a else b)
@[go_sem ↓] theorem qg8(c a b:uk):qt P pl det dst (.pick c a b) ev mu K Kp=J8 (ev c) (ev a) (ev b) (km K mu):=eqS rfl
@[go_sem] theorem qg9(t:Bool)(a b:AV)(k:AV->Prop):J8 (.sc (.bool t)) a b k=k (if t then a else b):=by simp[J8]
@[go_sem ↓] theorem qhA(e:j1):qt P pl det dst (.alloc e) ev mu K Kp=OptK (qv P e) (W5 K mu):=eqS rfl
@[go_sem ↓] theorem SStep_box(e:j1)(x:uk):qt P pl det dst (.box e x) ev mu K Kp=((ev x).cells.all AV.one=true/\(if (dst.any pl.mt.contains)=true then K (.ptr mu.length 0) (mu++[.arr (ev x).cells]) else K (.ip (ev x).cells) mu)):=eqS rfl
@[go_sem ↓] theorem qhB(t:j1)(ps:List (Nat×uk)):qt P pl det dst (.build t ps.toArray) ev mu K Kp=(yG P t=true/\OptK (wW P t (ps.map fun p=>(p.1,ev p.2))) (km K mu)):=eqS rfl
@[go_sem ↓] theorem qhC(t:j1)(n:Nat)(ps:List (Nat×uk)):qt P pl det dst (.buildSlice t n ps.toArray) ev mu K Kp=OptK (wY P t n (ps.map fun p=>(p.1,ev p.2))) (km K mu):=eqS rfl
@[go_sem ↓] theorem qhD(t:j1)(x:uk):qt P pl det dst (.load t x) ev mu K Kp=OptK (jR P mu t (ev x)) (km K mu):=eqS rfl
@[go_sem ↓] theorem qhE(t:j1)(a x:uk):qt P pl det dst (.store t a x) ev mu K Kp=OptK (wP P mu t (ev a) (ev x)) (ks K):=eqS rfl
@[go_sem ↓] theorem qhF(x:uk):qt P pl det dst (.nilCheck x) ev mu K Kp=OptK (Qc (ev x)) (km K mu):=eqS rfl
def jA(P:qf)(det:Bool)(op:BinOp)(t:j1)(x y:uk)(ev:uk->AV)(mu:Mu)(K:AV->Mu->Prop):Prop:=if jT y=true then yx P det op t (ev x) (km K mu) else OptK (vp P op t (ev x) (ev y)) (km K mu)
@[go_sem ↓] theorem qhG(op:BinOp)(t g:j1)(x y:uk):qt P pl det dst (.binOp op t x y g) ev mu K Kp=jA P det op t x y ev mu K:=eqS rfl
@[go_sem ↓] theorem BinGo_tmp(op:BinOp)(t:j1)(x:uk)(u:Tmp):jA P det op t x (.tmp u) ev mu K=OptK (vp P op t (ev x) (ev (.tmp u))) (km K mu):=by simp[jA,jT]
@[go_sem ↓] theorem BinGo_int(op:BinOp)(t:j1)(x:uk)(k:IntKind)(n:Int):jA P det op t x (.const (.int k n)) ev mu K=OptK (vp P op t (ev x) (ev (.const (.int k n)))) (km K mu):=by simp[jA,jT]
@[go_sem ↓] theorem qhH(op:BinOp)(t:j1)(x:uk)(s:cD):jA P det op t x (.const (.string s)) ev mu K=OptK (vp P op t (ev x) (ev (.const (.string s)))) (km K mu):=by simp[jA,jT]
@[go_sem ↓] theorem qhI(op:BinOp)(t:j1)(x:uk):jA P det op t x (.const .nilIface) ev mu K=OptK (vp P op t (ev x) (ev (.const .nilIface))) (km K mu):=by simp[jA,jT]
@[go_sem ↓] theorem BinGo_nil(op:BinOp)(t:j1)(x:uk):jA P det op t x (.const (.slice none 0 0)) ev mu K=yx P det op t (ev x) (km K mu):=by simp[jA,jT]
@[go_sem] theorem qhJ(op:BinOp)(t:j1)(f:Bool)(r:List AV)(xs:List (List AV))(k:AV->Prop):yx P det op t (.lst f (r :: xs)) k=((qy P t).isSome=true/\(op = .eql\/op = .neq)/\k (.sc (.bool (decide (op = .neq))))):=eqS rfl
@[go_sem] theorem NilGo_nil(op:BinOp)(t:j1)(f:Bool)(k:AV->Prop):yx P det op t (.lst f []) k=((qy P t).isSome=true/\(op = .eql\/op = .neq)/\det=false/\k (.sc (.bool true))/\k (.sc (.bool false))):=eqS rfl
@[go_sem ↓] theorem qhK(op:UnOp)(t:j1)(x:uk):qt P pl det dst (.unOp op t x) ev mu K Kp=OptK (aUn op (ev x)) (km K mu):=eqS rfl
@[go_sem ↓] theorem qhL(f:Fn)(a b:List uk):qt P pl det dst (.makeFunc f a.toArray b.toArray) ev mu K Kp=K (.fn f (evs ev a) (evs ev b)) mu:=eqS rfl
@[go_sem ↓] theorem qhM(t:j1)(l c:uk):qt P pl det dst (.makeSlice t l c) ev mu K Kp=OptK (uT P mu t (ev l) (ev c)) (kp K):=eqS rfl
@[go_sem ↓] theorem qhN(t:j1)(x:uk)(lo g mx:Option uk):qt P pl det dst (.slice t x lo g mx) ev mu K Kp=(JI P t (ev x)/\OptK (wU P t (ev x) (lo.map ev) (g.map ev) (mx.map ev)) (km K mu)):=eqS rfl
@[go_sem ↓] theorem qhO(t:j1)(x:uk)(f:Nat):qt P pl det dst (.fieldAddr t x f) ev mu K Kp=OptK (wQ P t f (ev x)) (km K mu):=eqS rfl
@[go_sem ↓] theorem qhP(t:j1)(x:uk)(f:Nat):qt P pl det dst (.field t x f) ev mu K Kp=OptK (wS P t f (ev x)) (km K mu):=eqS rfl
@[go_sem ↓] theorem qhQ(t:j1)(x i:uk):qt P pl det dst (.indexAddr t x i) ev mu K Kp=OptK (wR P t (ev x) (ev i)) (km K mu):=eqS rfl
@[go_sem ↓] theorem qhR(t:j1)(x i:uk):qt P pl det dst (.index t x i) ev mu K Kp=OptK (wT P t (ev x) (ev i)) (km K mu):=eqS rfl
@[go_sem ↓] theorem qhS(x:uk)(i:Nat):qt P pl det dst (.extract x i) ev mu K Kp=OptK (ZF i (ev x)) (km K mu):=eqS rfl
@[go_sem ↓] theorem qhT(t:j1):qt P pl det dst (.makeMap t none) ev mu K Kp=K (.mp mu.length) (mu++[.mp []]):=by
 simp only[qt,true_and]
@[go_sem ↓] theorem qhU(t:j1)(m k:uk)(ok:Bool):qt P pl det dst (.lookup t m k ok) ev mu K Kp=OptK (z5 P mu t (ev m) (ev k) ok) (km K mu):=eqS rfl
@[go_sem ↓] theorem qhV(t:j1)(m k v:uk):qt P pl det dst (.insert t m k v) ev mu K Kp=OptK (uh P mu t (ev m) (ev k) (ev v)) (ks K):=eqS rfl
@[go_sem ↓] theorem qhW(f:uk)(g:List uk)(i:Array j1):qt P pl det dst (.call ⟨.value f,g.toArray,i⟩) ev mu K Kp=qc P det mu (ev f) (evs ev g) K Kp:=eqS rfl
def W6(P:qf)(mu:Mu)(g:Array j1)(l:List AV)(K:AV->Mu->Prop):Prop:=∃ s x,l=[s,x]/\qI P mu g s x K
@[go_sem ↓] theorem qhX(g:List uk)(i:Array j1):qt P pl det dst (.call ⟨.builtin .append,g.toArray,i⟩) ev mu K Kp=W6 P mu i (evs ev g) K:=eqS rfl
@[go_sem] theorem AppGo_eq(g:Array j1)(s x:AV):W6 P mu g [s,x] K=qI P mu g s x K:=
 propext ⟨fun⟨_,_,e,h⟩=>by cases e;exact h,fun h=>⟨s,x,rfl,h⟩⟩
@[go_sem ↓] theorem SStep_len(g:List uk)(i:Array j1):qt P pl det dst (.call ⟨.builtin .len,g.toArray,i⟩) ev mu K Kp=OptK (jU P mu .len i (evs ev g)) (km K mu):=eqS rfl
@[go_sem ↓] theorem SStep_max(g:List uk)(i:Array j1):qt P pl det dst (.call ⟨.builtin .max,g.toArray,i⟩) ev mu K Kp=OptK (jU P mu .max i (evs ev g)) (km K mu):=eqS rfl
@[go_sem] theorem evs_nil:evs ev []=[]:=eqS rfl
@[go_sem] theorem evs_cons(x:uk)(l:List uk):evs ev (x :: l)=ev x :: evs ev l:=eqS rfl
end
@[go_sem] theorem cells_agg(cs:List AV):(AV.agg cs).cells=cs:=eqS rfl
@[go_sem] theorem cells_sc(v:j3):(AV.sc v).cells=[.sc v]:=eqS rfl
@[go_sem] theorem cells_lst(f:Bool)(xs:List (List AV)):(AV.lst f xs).cells=[.lst f xs]:=eqS rfl
@[go_sem] theorem cells_fn(f:Fn)(a b:List AV):(AV.fn f a b).cells=[.fn f a b]:=eqS rfl
@[go_sem] theorem one_int(k:IntKind)(n:Int):(AV.sc (.int k n)).one=true:=eqS rfl
@[go_sem] theorem one_bool(b:Bool):(AV.sc (.bool b)).one=true:=eqS rfl
@[go_sem] theorem qhY(s:cD):(AV.sc (.string s)).one=true:=eqS rfl
@[go_sem] theorem qhZ:(AV.sc .nilFunc).one=true:=eqS rfl
@[go_sem] theorem one_lst(f:Bool)(xs:List (List AV)):(AV.lst f xs).one=true:=eqS rfl
@[go_sem] theorem one_fn(f:Fn)(a b:List AV):(AV.fn f a b).one=true:=eqS rfl
end Go.Ev
