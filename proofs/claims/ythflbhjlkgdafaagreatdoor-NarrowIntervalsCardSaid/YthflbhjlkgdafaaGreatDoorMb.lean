/-
  Own library, part 2: an abstract reading of values and a calculus over it; contracts of functions; plain lemmas.
-/
import Derived.TacticsIn
import Derived.Deep.LoopGhost
import Derived.Scope
import Derived.Sort.LoopGhostIn
import Derived.Test.YthflbhjlkgdafaaGreatDoorMa
set_option linter.unusedVariables false
set_option linter.unusedSimpArgs false
set_option maxRecDepth 100000
open Go renaming Program->qc,World->qe,Value->qf,Operand->qh,TypeId->qd,undef->z6,Oper->yj,FuncId->zV
open List renaming getElem?_eq_some_iff->ql,mem_map->qp,range->qu,getElem?_eq_getElem->qy,mem_cons->qz,getElem?_set_self->qJ,getElem?_append_left->qL,not_mem_nil->qO,mem_append->qP,mem_singleton->qX,all_eq_true->qY,mem_cons_of_mem->q9,mem_cons_self->zo,getD_eq_getElem?_getD->zH,mem_range->zW,append_nil->ye,cons_append->yq,nil_append->y8,mem_filter->jg,mem_append_left->jh,nodup_cons->ve,ext_getElem?->vg,getElem?_cons_succ->vW,mem_iff_getElem->uA,eq_nil_of_length_eq_zero->uM,getElem?_toArray->Qb,nodup_append->ZE
open Nat renaming le_refl->qn,le_of_ble_eq_true->vd,lt_of_lt_of_le->ZC
open Option.some renaming injEq->qs
open Bool renaming and_eq_true->qD,or_eq_true->Yg
open Go.Sem renaming run_bind->qQ,run_pure->zJ
open Go.Result renaming andThen_ok->qS
open Array renaming getD_eq_getD_getElem?->qU,getElem?_eq_some_iff->yI
open Option renaming map_some->zh
open List.Nodup renaming length_le_of_subset->jl
open List.cons renaming injEq->vK
open Classical renaming byContradiction->uL
open Go.World renaming putObj_heap_other->wt
namespace Go.Ev
open Go Go.RowKit
section
variable {next:Act->qe->Prop}{h:Array Obj}{Q:Exit->Act->qe->Prop}{G:Gh}{ρ:qh->qf}{P:qc}{w:qe}
@[go_sem] def V7:AV->Option AV
 | .ip g=>some (.ip g)
 | .ptr b o=>some (.ptr b o)
 | .ifc t x=>some (.ifc t x)
 | .fn (.func f) a b=>some (.fn (.func f) a b)
 |_=>none
@[go_sem] def WX(i:Nat):AV->Option AV
 | .tup g=>g[i]?
 |_=>none
def Ze(P:qc)(t:qd):Bool:=match P.underlying t with|some (.interface _)=>false|some _=>true|none=>false
@[go_sem] def V8(P:qc)(t:qd)(ok:Bool)(x:AV):Option AV:=
 if Ze P t=true then
  match x with
  | .ifc u v=>if u=t then some (if ok then .tup [v,.sc (.bool true)] else v) else if ok then (qB P t).map fun z => .tup [z,.sc (.bool false)] else none
  | .sc .nilIface=>if ok then (qB P t).map fun z => .tup [z,.sc (.bool false)] else none
  |_=>none
 else none
@[go_sem] def gn(P:qc)(t:qd)(x:AV):Prop:=
 match x with
 | .lst _ p=>∃ e sz g,qF P t=some (e,sz,g)/\jn sz p
 |_=>True
def yi(P:qc)(t:qd):Bool:=match qB P t with|some z=>z.cells.all AV.one|none=>false
def evs(ev:qh->AV)(l:List qh):List AV:=l.map ev
def Zf(P:qc)(mu:Mu)(b:Builtin)(g:Array qd)(args:List AV)(K:AV->Mu->Prop):Prop:=∃ z m,ExtB P mu b g args z m/\K z m
def qH(P:qc)(pl:Pol)(det:Bool)(g:Option Tmp)(op:Op)(ev:qh->AV)(mu:Mu)(K C:AV->Mu->Prop):Prop:=
 match op with
 | .move x | .assign x=>K (ev x) mu
 | .pick c a b=>∃ t,ev c = .sc (.bool t)/\K (if t then ev a else ev b) mu
 | .alloc e=>OptK (qB P e) fun z=>z.cells.all AV.one=true/\K (.ptr mu.length 0) (mu++[.arr z.cells])
 | .box e x=>(ev x).cells.all AV.one=true/\(if (g.any pl.mt.contains)=true then K (.ptr mu.length 0) (mu++[.arr (ev x).cells]) else K (.ip (ev x).cells) mu)
 | .build t o=>yi P t=true/\OptK (VV P t (o.toList.map fun p=>(p.1,ev p.2))) fun z=>K z mu
 | .buildSlice t n o=>OptK (VX P t n (o.toList.map fun p=>(p.1,ev p.2))) fun z=>K z mu
 | .load t a=>OptK (Qd P mu t (ev a)) fun z=>K z mu
 | .store t a x=>OptK (VN P mu t (ev a) (ev x)) fun m=>K (.sc z6) m
 | .nilCheck x=>OptK (V7 (ev x)) fun z=>K z mu
 | .binOp op t x y _=>if wA y=true then jX P det op t (ev x) (fun z=>K z mu) else OptK (Qg P op t (ev x) (ev y)) fun z=>K z mu
 | .unOp op _ x=>OptK (aUn op (ev x)) fun z=>K z mu
 | .convert src g x=>(P.underlying src).isSome=true/\OptK (VO P src g (ev x)) fun z=>K z mu
 | .makeInterface t x=>Ze P t=true/\K (.ifc t (ev x)) mu
 | .makeFunc f first j=>K (.fn f (evs ev first.toList) (evs ev j.toList)) mu
 | .makeSlice t l c=>OptK (JE P mu t (ev l) (ev c)) fun z=>K z.1 z.2
 | .slice t x I J R=>gn P t (ev x)/\OptK (VU P t (ev x) (I.map ev) (J.map ev) (R.map ev)) fun z=>K z mu
 | .fieldAddr s x f=>OptK (VP P s f (ev x)) fun z=>K z mu
 | .field t x f=>OptK (VS P t f (ev x)) fun z=>K z mu
 | .indexAddr t x i=>OptK (VQ P t (ev x) (ev i)) fun z=>K z mu
 | .index t x i=>OptK (VT P t (ev x) (ev i)) fun z=>K z mu
 | .extract t i=>OptK (WX i (ev t)) fun z=>K z mu
 | .typeAssert x _ t ok=>OptK (V8 P t ok (ev x)) fun z=>K z mu
 | .makeMap _ r=>r=none/\K (.mp mu.length) (mu++[.mp []])
 | .lookup t m k ok=>OptK (yL P mu t (ev m) (ev k) ok) fun z=>K z mu
 | .mapUpdate t m k v=>OptK (uf P mu t (ev m) (ev k) (ev v)) fun m=>K (.sc z6) m
 | .insert t m k v=>OptK (uf P mu t (ev m) (ev k) (ev v)) fun m=>K (.sc z6) m
 | .mapEntry t m k=>OptK (Ym P mu t (ev m) (ev k)) fun z=>K z.1 z.2
 | .entryStore _ m s v=>OptK (WU mu (ev m) (ev s) (ev v)) fun m=>K (.sc z6) m
 | .range t m=>OptK (V5 P mu t (ev m)) fun z=>K z.1 z.2
 | .next i str=>det=false/\str=false/\WV mu (ev i) K
 | .entry i=>OptK (ZN mu (ev i)) fun z=>K z mu
 | .panic x=>det=false/\∃ t v,ev x = .ifc t v/\C (.ifc t v) mu
 | .call c=>match c.callee with
  | .value f=>qi P det mu (ev f) (evs ev c.args.toList) K C
  | .builtin b=>match b with
   | .append=>∃ s x,evs ev c.args.toList=[s,x]/\qx P mu c.argTypes s x K
   | .copy=>Zf P mu .copy c.argTypes (evs ev c.args.toList) K
   | .delete=>Zf P mu .delete c.argTypes (evs ev c.args.toList) K
   | .clear=>Zf P mu .clear c.argTypes (evs ev c.args.toList) K
   |b=>OptK (uO P mu b c.argTypes (evs ev c.args.toList)) fun z=>K z mu
  | .invoke _ _=>False
 |_=>False
theorem qhW{o:yj}{a s u w'}(g:s.run P w = .ok u w')(i:next (a.put o.dst u) w') :
  o.upon P a next Q ((do pure (Next.value (<-s)):Sem Next).run P w):=by
 grind [qQ,qS,zJ,Oper.upon]
theorem V9{o:yj}{a s w'}(g:s.run P w = .ok () w')(i:next (a.put o.dst z6) w') :
  o.upon P a next Q ((do s;pure Next.skip:Sem Next).run P w):=by
 grind [qQ,qS,zJ,Oper.upon]
theorem Qh{ev}(i:∀ x,VRel G h (ev x) (ρ x))(l:Array qh):zX G h (evs ev l.toList) (l.map ρ):=by
 refine⟨by simp[evs],fun k x g=>?_⟩;simp only[evs,List.getElem?_map,Option.map_eq_some_iff,Array.getElem?_toList]at g;obtain⟨y,j,rfl⟩:=g;simp_all
theorem gq{ev:qh->AV}(g:∀ x,VRel G h (ev x) (ρ x))(l:Array (Nat×qh)) :
  JB G h (l.toList.map fun p=>(p.1,ev p.2)) ((l.map fun (x:Nat×qh)=>(x.1,ρ x.2)).toList):=by
 rw[Array.toList_map];induction l.toList with
 |nil=>trivial
 |cons p j i=>exact⟨rfl,g _,i⟩
theorem s5{xs ys zs a b c}(g:zX G h xs a)(i:zX G h ys b)(j:zX G h zs c):zX G h (xs++ys++zs) (a++b++c):=by
 obtain⟨l,g1⟩:=g;obtain⟨o,t⟩:=i;obtain⟨p,C⟩:=j;refine⟨by simp[l,o,p],fun k x I=>?_⟩;simp only[qU]at *
 by_cases J:k<xs.length
 .grind
 grind
theorem gt{mu}(s:Sim G mu w.heap){f args v fv vs}(rf:VRel G w.heap f fv)(ra:zX G w.heap args vs)
  (h:JK P mu f args v):∃ g first caps,fv = .func (.func g) first caps/\yT P g/\Calls P g (first++vs++caps) w fun e w'=>∃ G' u,e = .returned u/\Stp G mu w G' mu w'/\VRel G' w'.heap v u:=by
 have step:∀(a0 l:Nat->Prop)(w':qe),(∀ b,G.imm b->a0 b)->(∀ b,l b->b<w'.heap.size/\(a0 b\/w.heap.size<=b))->ZL w.heap.size w w'->(∀ b,a0 b->G.imm b\/Live G mu b) ->
   Stp G mu w ⟨fun b=>G.imm b\/(l b/\w.heap.size<=b),G.blk⟩ mu w':=by
  intro a0 l w' h1 h2 t h3;have a2:G.le ⟨fun b=>G.imm b\/(l b/\w.heap.size<=b),G.blk⟩:=⟨fun b h => .inl h,fun _ _ h=>h⟩;have he:Ext G w.heap w'.heap:=⟨t.size,fun b p=>t.block b (s.imm b p)⟩;have key:∀ b,Live G mu b->w'.heap[b]?=w.heap[b]?:=fun b hl=>t.block b (s.livesize hl)
  refine⟨a2,⟨s.len,?_,?_,?_,s.inj,s.tab.mono a2.imm (fun b p=>t.block b (s.imm b p))⟩,fun b a3 _=>t.block b a3,t.size,fun b h => .inl h,fun b h=>h.elim .inl (fun e => .inr (.inr e.2)),t.tape,t.os,t.output,t.drawn⟩
  .intro b p
   rcases p with p|p
   .exact ZC (s.imm b p) t.size
   grind
  .intro i c a1 J hc hd hk
   obtain⟨o',g1,g2⟩:=s.obj i c a1 J hc hd hk;exact⟨o',by rw[key a1 ⟨i,_,J,hc,hd,hk⟩];exact g1,g2.mono a2 he⟩
  .intro i c a1 J hc hd hk p
   rcases p with p|p
   .exact s.live i c a1 J hc hd hk p
   .have:=s.livesize ⟨i,c,J,hc,hd,hk⟩;omega
 rcases h with h|⟨g,fi,ca,j,rfl,⟨R,hs⟩,h⟩
 case inr =>
  cases rf with
  |fn _ _ _ C I hn hm hv hw =>
  refine⟨g,C,I,rfl,R,?_⟩;have o:=s5 (G:=G) (h:=w.heap) ⟨hn,hv⟩ ra ⟨hm,hw⟩;obtain⟨hl,hg⟩:=h.get;have T:zX ⟨fun b=>G.imm b\/Live G mu b,[]⟩ w.heap j (C++vs++I):=by
   refine⟨by rw[o.1,hl],fun k y hy=>?_⟩;have hk:k<j.length:=(ql.1 hy).1;have hx:(fi++args++ca)[k]?=some ((fi++args++ca)[k]' zOm):=by rw[qy]
   exact(hg k _ y hx hy).sound s (o.2 k _ hx)
  refine(hs _ w _ (s.all) T).mono fun e w' ⟨nw,u,he,h2,t,hr⟩=>?_
  have U:=step (fun b=>G.imm b\/Live G mu b) nw w' (fun b h => .inl h) (fun b h=>⟨(h2 b h).2,.inr (h2 b h).1⟩) t (fun b h=>h);refine⟨_,u,he,U,hr.le (G':=⟨fun b=>G.imm b\/(nw b/\w.heap.size<=b),G.blk⟩) ⟨fun b p => .inr ⟨p,(h2 b p).1⟩,fun i x h=>by simp at h⟩⟩
 obtain⟨g,fi,ca,j,rfl,⟨R,hs⟩,h⟩:=h;cases rf with
 |fn _ _ _ C I hn hm hv hw =>
 refine⟨g,C,I,rfl,R,?_⟩;have o:=s5 (G:=G) (h:=w.heap) ⟨hn,hv⟩ ra ⟨hm,hw⟩;rcases h with h|⟨h,a4⟩
 .obtain ⟨hl,hg⟩:=h.get
  have T:zX ⟨G.imm,[]⟩ w.heap j (C++vs++I):=by
   refine⟨by rw[o.1,hl],fun k y hy=>?_⟩;have hk:k<j.length:=(ql.1 hy).1;have hx:(fi++args++ca)[k]?=some ((fi++args++ca)[k]' zOm):=by rw[qy]
   exact hg k _ y hx hy G w.heap _ (o.2 k _ hx)
  refine(hs G.imm w _ s.bare T).mono fun e w' ⟨l,u,he,h1,h2,t,hr⟩=>?_
  have U:=step G.imm l w' (fun b h=>h) h2 t (fun b h => .inl h);refine⟨_,u,he,U,?_⟩;refine hr.le ⟨fun b p=>?_,fun i x h=>by simp at h⟩;rcases (h2 b p).2 with h|h
  .exact .inl h
  grind
 .obtain ⟨hl,hg⟩:=h.get
  have T:zX ⟨fun b=>G.imm b\/Live G mu b,[]⟩ w.heap j (C++vs++I):=by
   refine⟨by rw[o.1,hl],fun k y hy=>?_⟩;have hk:k<j.length:=(ql.1 hy).1;have hx:(fi++args++ca)[k]?=some ((fi++args++ca)[k]' zOm):=by rw[qy]
   exact(hg k _ y hx hy).sound s (o.2 k _ hx)
  refine(hs _ w _ (s.all) T).mono fun e w' ⟨l,u,he,h1,h2,t,hr⟩=>?_
  have U:=step _ l w' (fun b h => .inl h) h2 t (fun b h=>h);exact⟨_,u,he,U,a4 _ _ _ _ _ hr⟩
end
end Go.Ev
namespace Go.Ev
open Go Go.RowKit
section
variable {K Kp:AV->Mu->Prop}{a:Act}{G:Gh}{o:yj}{P:qc}{w:qe}
theorem qhX{h x z v}(r:VRel G h x v)(e:V7 x=some z) :
  z=x/\((∃ a,v = .pointer (some a))\/(∃ t u,v = .iface t u)\/(∃ f a b,v = .func (.func f) a b)):=by
 unfold V7 at e;split at e<;>simp only[qs,reduceCtorEq]at e<;>subst e
 .cases r;simp
 .cases r;simp
 .cases r;simp
 .cases r;simp
theorem gw{t}(h:Ze P t=true):∃ d,P.underlying t=some d/\∀ g,d ≠ .interface g:=by
 grind [Ze,absurd]
theorem qhY{U t ok x z v}(r:VRel G w.heap x v)(h:V8 P t ok x=some z) :
  ∃ u,(Instr.typeAssert v U t ok).run P w = .ok u w/\VRel G w.heap z u:=by
 unfold V8 at h;have tup:∀(y:AV)(u:qf)(b:Bool),VRel G w.heap y u->VRel G w.heap (.tup [y,.sc (.bool b)]) (.tuple #[u,.bool b]):=by
  intro y u b ry;refine .tup _ _ rfl (fun k c C=>?_);cases k with
  |zero=>simp_all
  |succ k=>cases k with
   |zero=>simp at C;subst C;exact .sc _ rfl
   |succ k=>simp at C
 split at h
 .rename_i hc
  obtain⟨d,o,p⟩:=gw hc;have zero:∀ z,qB P t=some z->∃ g,(zeroValue t).run P w = .ok g w/\VRel G w.heap z g:=by
   intro z i;obtain⟨g,l,rfl⟩:=ZI i w;exact⟨g,l,.ofV g⟩
  split at h
  .rename_i ut uv
   cases r with
   |ifc _ _ v T =>
   split at h
   .rename_i I
    subst I;simp only[qs]at h;subst h;cases ok
    .refine ⟨v,?_,T⟩
     simp only[Instr.typeAssert,qQ,run_underlying o,qS];cases d<;>first | (exact absurd rfl (p _))|simp
    .refine ⟨.tuple #[v,.bool true],?_,tup _ _ _ T⟩
     simp only[Instr.typeAssert,qQ,run_underlying o,qS];cases d<;>first | (exact absurd rfl (p _))|simp
   .rename_i I
    split at h
    .rename_i j
     subst j;cases i:qB P t with
     |none=>simp[i]at h
     |some J =>
      simp only[i,zh,qs]at h;subst h;obtain⟨g,l,R⟩:=zero J i;refine⟨.tuple #[g,.bool false],?_,tup _ _ _ R⟩;simp only[Instr.typeAssert,qQ,run_underlying o,qS];cases d<;>first | (exact absurd rfl (p _))|simp[I,l]
    grind
  .cases r
   split at h
   .rename_i j
    subst j;cases i:qB P t with
    |none=>simp[i]at h
    |some J =>
     simp only[i,zh,qs]at h;subst h;obtain⟨g,l,R⟩:=zero J i;refine⟨.tuple #[g,.bool false],?_,tup _ _ _ R⟩;simp only[Instr.typeAssert,qQ,run_underlying o,qS];cases d<;>first | (exact absurd rfl (p _))|simp[l]
   grind
  grind
 grind
def gA(P:qc)(op:Op)(ev:qh->AV)(mu:Mu)(K:AV->Mu->Prop):Prop:=
 ∃ f args j i R,op = .call { callee := .value f,args,argTypes:=j }/\ev f = .yl i/\V6 P i (evs ev args.toList) mu R/\∀ b m,R b m->K (.sc (.bool b)) m
theorem qhZ{pl det mu ev}(s:Sim G mu w.heap)(j:∀ x,VRel G w.heap (ev x) (a.eval x))
  (h:qH P pl det o.dst o.op ev mu K Kp) (hy:¬gA P o.op ev mu K) {next} {Q}
  (hK:∀ v mu' G' w' u,K v mu'->Stp G mu w G' mu' w'->VRel G' w'.heap v u->next (a.put o.dst u) w')
  (a5:∀ v mu' G' w' u,Kp v mu'->Stp G mu w G' mu' w'->VRel G' w'.heap v u->Q (.panic [{ v:=u,recovered:=false }]) a w'):o.wp P a w next Q:=by
 obtain⟨dst,op,ty,pos,after,guard⟩:=o;simp only at h hK a5 hy;have T:∀{c:Sem qf}{x:AV}{mu':Mu},Good P G mu w c x mu'->K x mu'->∀{o':yj},o'.dst=dst->o'.upon P a next Q ((do pure (Next.value (<-c)):Sem Next).run P w):=by
  intro c x mu' ⟨u,w',G',h1,h2,h3⟩ C o' ho
  grind [qhW]
 have quiet:∀{c:Sem qf}{x:AV}{u:qf},c.run P w = .ok u w->VRel G w.heap x u->K x mu->∀{o':yj},o'.dst=dst->o'.upon P a next Q ((do pure (Next.value (<-c)):Sem Next).run P w):=
  fun h1 h2 C _ ho=>T (sY s h1 h2) C ho
 unfold Oper.wp;cases op<;>simp only[qH]at h<;>try (exact h.elim)
 case move x=>exact hK _ _ _ _ _ h (Stp.refl s) (j x)
 case assign x=>exact hK _ _ _ _ _ h (Stp.refl s) (j x)
 case pick c x y =>
  obtain⟨t,hc,C⟩:=h;have rc:=j c;rw[hc]at rc;have ec:a.eval c = .bool t:=by generalize a.eval c=cv at rc;cases rc;rfl
  simp only[execOp,ec,asBool];refine hK _ _ _ _ _ C (Stp.refl s) ?_;cases t
  .exact j y
  grind
 case alloc e =>
  obtain⟨z,I,h1,C⟩:=h;obtain⟨zv,ab,rfl⟩:=ZI I w;obtain⟨G',g1,J,g3⟩:=pL (P:=P) s e (VRel.ofV zv) h1;refine T ⟨_,_,G',?_,J,g3⟩ C rfl;simp_all[Instr.alloc,qQ,qS,zJ]
 case box e x =>
  obtain⟨h1,C⟩:=h;split at C
  .obtain ⟨G',g1,J,g3⟩:=pL (P:=P) s e (j x) h1
   refine T ⟨_,_,G',?_,J,g3⟩ C rfl
   grind [Instr.box,qQ,qS,zJ]
  .obtain ⟨G',g1,J,g3⟩:=qgR (P:=P) s e (j x) h1
   refine T ⟨_,_,G',?_,J,g3⟩ C rfl
   grind [Instr.box,qQ,qS,zJ]
 case build t ps =>
  obtain⟨h1,z,I,C⟩:=h;obtain⟨u,g1,J⟩:=qgQ (P:=P) (w:=w) (gq j ps) (fun y hy=>by grind [yi]) I;exact quiet g1 J C rfl
 case buildSlice t n ps =>
  obtain⟨z,I,C⟩:=h;exact T (qgT s (gq j ps) I) C rfl
 case load t x =>
  obtain⟨z,I,C⟩:=h;obtain⟨ad,u,g0,g1,J⟩:=pB (P:=P) s (j x) I;refine quiet ?_ J C rfl
  grind [Instr.loadAt,Instr.sureAddr,qQ,zJ,qS]
 case store t x y =>
  obtain⟨m,hm,C⟩:=h;obtain⟨ad,w',g0,g1,J⟩:=qf7 (P:=P) s (j x) (j y) hm;refine V9 (w':=w') ?_ ?_
  .grind [Instr.storeAt,Instr.sureAddr,qQ,zJ,qS]
  .exact hK _ _ _ _ _ C J (.sc _ rfl)
 case nilCheck x =>
  obtain⟨z,I,C⟩:=h;obtain⟨rfl,hv⟩:=qhX (j x) I;have:(execOp a.eval { dst,op := .nilCheck x,type:=ty,pos,after,guard }).run P w = .ok (.value (a.eval x)) w:=by
   rcases hv with ⟨ad,hv⟩|⟨t,u,hv⟩|⟨f,b,c,hv⟩<;>simp[execOp,hv]
  rw[this];exact hK _ _ _ _ _ C (Stp.refl s) (j x)
 case binOp op t x y yt =>
  split at h
  .rename_i hy
   obtain rfl:=qhT hy;obtain⟨z,r,C,g1,J⟩:=jX.sound (ox:=x) (oy := .const (.slice none 0 0)) (j x) h;exact quiet g1 J C rfl
  obtain⟨z,I,C⟩:=h;obtain⟨u,g1,J⟩:=qhR (P:=P) (ox:=x) (oy:=y) (j x) (j y) I;exact quiet g1 J C rfl
 case unOp op t x =>
  obtain⟨z,I,C⟩:=h;obtain⟨u,g1,J⟩:=qgG (P:=P) (j x) I;exact quiet g1 J C rfl
 case convert src ae x =>
  obtain⟨h1,z,I,C⟩:=h;obtain⟨u,g1,J⟩:=qgH (P:=P) (src:=src) (j x) (Option.isSome_iff_exists.1 h1) I;exact quiet g1 J C rfl
 case makeInterface t x =>
  obtain⟨h1,C⟩:=h;obtain⟨d,hu,hd⟩:=gw h1;refine quiet (u := .iface t (a.eval x)) ?_ (.ifc t _ _ (j x)) C rfl;simp only[Instr.makeInterface,qQ,run_underlying hu,qS];cases d<;>first | (exact absurd rfl (hd _))|simp
 case makeFunc f first a1 =>
  refine quiet (u := .func f (first.map a.eval) (a1.map a.eval)) rfl ?_ h rfl;have r1:=Qh j first;have r2:=Qh j a1;exact .fn f _ _ _ _ r1.1 r2.1 r1.2 r2.2
 case makeSlice t l c =>
  obtain⟨z,I,C⟩:=h;exact T (qgU s (j l) (j c) I) C rfl
 case slice t x lo hi mx =>
  obtain⟨hr,z,I,C⟩:=h;obtain⟨u,g1,J⟩:=qgM (P:=P) (w:=w) (vlo:=lo.map a.eval) (vhi:=hi.map a.eval) (vmx:=mx.map a.eval) (j x)
   (fun y hy=>by cases lo with|none=>simp at hy|some q=>simp at hy;subst hy;grind) (fun h=>by simp_all)
   (fun y hy=>by cases hi with|none=>simp at hy|some q=>simp at hy;subst hy;grind) (fun h=>by simp_all)
   (fun y hy=>by cases mx with|none=>simp at hy|some q=>simp at hy;subst hy;grind) (fun h=>by simp_all)
   (fun full p e=>by rw[e]at hr;exact hr) I
  exact quiet g1 J C rfl
 case fieldAddr t x f =>
  obtain⟨z,I,C⟩:=h;obtain⟨u,g1,J⟩:=qgI (P:=P) (j x) I;exact quiet g1 J C rfl
 case field t x f =>
  obtain⟨z,I,C⟩:=h;obtain⟨u,g1,J⟩:=qgK (P:=P) (j x) I;exact quiet g1 J C rfl
 case indexAddr t x i =>
  obtain⟨z,I,C⟩:=h;obtain⟨u,g1,J⟩:=qgJ (P:=P) (j x) (j i) I;exact quiet g1 J C rfl
 case index t x i =>
  obtain⟨z,I,C⟩:=h;obtain⟨u,g1,J⟩:=qgL (P:=P) (j x) (j i) I;exact quiet g1 J C rfl
 case extract t i =>
  obtain⟨z,I,C⟩:=h;have rt:=j t;unfold WX at I;split at I
  .rename_i cs e
   rw[e]at rt;generalize hq:a.eval t=tv at rt;cases rt with
   |tup _ vs hn hv =>
   have ai:i<cs.length:=(ql.1 I).1;have a6:i<vs.size:=zOm;refine quiet (u:=vs.getD i z6) ?_ (hv i z I) C rfl;simp[hq,Instr.extract,a6,qU]
  grind
 case typeAssert x xt t ok =>
  obtain⟨z,I,C⟩:=h;obtain⟨u,g1,J⟩:=qhY (P:=P) (j x) I;exact quiet g1 J C rfl
 case makeMap t r =>
  obtain⟨rfl,C⟩:=h;exact T (qhJ (P:=P) (t:=t) s) C rfl
 case lookup t m k ok =>
  obtain⟨z,I,C⟩:=h;obtain⟨u,g1,J⟩:=qg8 (P:=P) s (j m) (j k) I;exact quiet g1 J C rfl
 case mapUpdate t m k v =>
  obtain⟨m',hm,C⟩:=h;obtain⟨w',g1,J⟩:=gg (P:=P) s (j m) (j k) (j v) hm;exact V9 (w':=w') g1 (hK _ _ _ _ _ C J (.sc _ rfl))
 case insert t m k v =>
  obtain⟨m',hm,C⟩:=h;obtain⟨w',g1,J⟩:=gg (P:=P) s (j m) (j k) (j v) hm;exact V9 (w':=w') g1 (hK _ _ _ _ _ C J (.sc _ rfl))
 case mapEntry t m k =>
  obtain⟨z,I,C⟩:=h;exact T (qhH s (j m) (j k) I) C rfl
 case entryStore t m U v =>
  obtain⟨m',hm,C⟩:=h;obtain⟨w',g1,J⟩:=qhI (P:=P) (t:=t) s (j m) (j U) (j v) hm;exact V9 (w':=w') g1 (hK _ _ _ _ _ C J (.sc _ rfl))
 case range t m =>
  obtain⟨z,I,C⟩:=h;exact T (qhK s (j m) I) C rfl
 case next i str =>
  obtain⟨_,rfl,hn⟩:=h;obtain⟨z,mu',C,hg⟩:=qhL (P:=P) (ty:=ty) s (j i) hn;exact T hg C rfl
 case entry i =>
  obtain⟨z,I,C⟩:=h;obtain⟨u,g1,J⟩:=qhM (P:=P) s (j i) I;exact quiet g1 J C rfl
 case panic x =>
  obtain⟨_,t,v,hx,C⟩:=h;have rx:=j x;rw[hx]at rx;generalize hq:a.eval x=xv at rx;cases rx with
  |ifc _ _ u hu =>
  simp only[execOp,hq,Instr.panic];exact a5 _ _ _ _ _ C (Stp.refl s) (.ifc t v u hu)
 case call c =>
  obtain⟨callee,args,argTypes⟩:=c;simp only at h;cases callee with
  |invoke r m=>exact h.elim
  |builtin b =>
   have fin:∀ z,uO P mu b argTypes (evs ev args.toList)=some z->K z mu->Oper.upon P { dst,op := .call { callee := .builtin b,args,argTypes },type:=ty,pos,after,guard } a next Q
     ((execOp a.eval { dst,op := .call { callee := .builtin b,args,argTypes },type:=ty,pos,after,guard }).run P w):=by
    intro z I C;obtain⟨u,g1,J⟩:=qhV (P:=P) (ty:=ty) (cs:=args.map fun | .const _=>true|_=>false) s (Qh j args) I;have:(execOp a.eval { dst,op := .call { callee := .builtin b,args,argTypes },type:=ty,pos,after,guard }).run P w = .ok (.value u) w:=by
     grind [execOp,resolve,qQ,zJ,qS,invoke]
    rw[this];exact hK _ _ _ _ _ C (Stp.refl s) J
   have a7:Zf P mu b argTypes (evs ev args.toList) K->Oper.upon P { dst,op := .call { callee := .builtin b,args,argTypes },type:=ty,pos,after,guard } a next Q
     ((execOp a.eval { dst,op := .call { callee := .builtin b,args,argTypes },type:=ty,pos,after,guard }).run P w):=by
    intro⟨z,m,I,C⟩;have ra:=Qh j args;obtain⟨u,w',g1,J,g3⟩:=qhO (P:=P) (ty:=ty) (cs:=args.map fun | .const _=>true|_=>false) s ra.1 ra.2 I;have:(execOp a.eval { dst,op := .call { callee := .builtin b,args,argTypes },type:=ty,pos,after,guard }).run P w = .ok (.value u) w':=by
     grind [execOp,resolve,qQ,zJ,qS,invoke]
    rw[this];exact hK _ _ _ _ _ C J g3
   cases b<;>simp only at h<;>try (first|exact a7 h | (obtain⟨z,I,C⟩:=h;exact fin z I C))
   obtain⟨sv,xv,hl,a8⟩:=h;have ra:=Qh j args;rw[hl]at ra;obtain⟨u,v,e1,ru,rv⟩:=ra.two_inv;obtain⟨z,mu',C,v',w',G',g1,J,g3⟩:=qgX (ty:=ty) s ru rv a8;have:(execOp a.eval { dst,op := .call { callee := .builtin .append,args,argTypes },type:=ty,pos,after,guard }).run P w = .ok (.value v') w':=by
    simp_all[execOp,resolve,qQ,zJ,qS,invoke,builtin]
   rw[this];exact hK _ _ _ _ _ C J g3
  |value f =>
   rcases h with ⟨v,hp,C⟩|⟨_,⟨g,fi,ca,R,hf,hs,hr,aj⟩|⟨i,R,hf,hs,C⟩⟩
   .obtain ⟨g,a3,a4,e1,a0,hc⟩:=gt s (j f) (Qh j args) hp
    have:(execOp a.eval { dst,op := .call { callee := .value f,args,argTypes },type:=ty,pos,after,guard }).run P w = .ok (.enter g (a3++args.map a.eval++a4)) w:=by
     simp only[execOp,resolve,qQ,zJ,qS,e1,Deferred.ofValue,invoke,a0 _ w]
    rw[this];refine hc.mono fun e w' ⟨G',u,he,a9,hu⟩=>?_
    grind
   .have rf:=j f
    rw[hf]at rf;generalize hq:a.eval f=fv at rf;cases rf with
    |fn _ _ _ a3 a4 hn hm hv hw =>
    obtain⟨a0,hs⟩:=hs;have:(execOp a.eval { dst,op := .call { callee := .value f,args,argTypes },type:=ty,pos,after,guard }).run P w = .ok (.enter g (a3++args.map a.eval++a4)) w:=by
     simp only[execOp,resolve,qQ,zJ,qS,hq,Deferred.ofValue,invoke,a0 _ w]
    rw[this];refine(hs G w _ s (s5 ⟨hn,hv⟩ (Qh j args) ⟨hm,hw⟩)).mono fun e w' ⟨G',mu',a9,h⟩=>?_
    rcases h with ⟨r,v,hR,rfl,aa⟩|⟨r,v,hR,rfl,aa⟩
    .grind
    grind
   .exact (hy ⟨f,args,argTypes,i,R,rfl,hf,hs,C⟩).elim
structure Ro where
 rd:Option Nat
 dl:List Deferred
 mks:Bool
 kp:List (AV×qf)
def Ro.fn:Ro:=⟨none,[],true,[]⟩
def Ro.round(l:Nat):Ro:=⟨some l,[],true,[]⟩
def WF(ro:Ro):Fence:={ Fence.wide with round:=ro.rd }
theorem gB{ro next Q g}(h:o.upon P a next Q g):o.uponIn (WF ro) 0 P a next Q g:=by
 have j:((WF ro).depth.isSome=true->1<=0):=fun h=>by simp[WF,Fence.wide]at h
 cases g with
 |halt i w=>cases i<;>first|exact h|exact h.elim
 |ok n w =>
  cases n
  case value v=>exact h
  case skip=>exact h
  case defer d=>exact h
  case enter f args =>
   refine⟨j,?_⟩;have:=(callsIn_wide (n:=0)).2 h;exact this
  case row row args =>
   refine⟨j,fun c l _=>?_⟩;obtain⟨v,p,t,C⟩:=h c l;exact⟨v,p,t,stepsIn_wide.2 C⟩
  all_goals exact h.elim
theorem Ua{pl det ro mu ev}(s:Sim G mu w.heap)(g:∀ x,VRel G w.heap (ev x) (a.eval x))
  (h:qH P pl det o.dst o.op ev mu K Kp) {next} {Q}
  (J:∀ v mu' G' w' u,K v mu'->Stp G mu w G' mu' w'->VRel G' w'.heap v u->next (a.put o.dst u) w')
  (t:∀ v mu' G' w' u,Kp v mu'->Stp G mu w G' mu' w'->VRel G' w'.heap v u->Q (.panic [{ v:=u,recovered:=false }]) a w'):o.wpIn (WF ro) 0 P a w next Q:=by
 have T:∀ c,o.op ≠ .defer c:=by
  grind [qH]
 refine⟨fun _ _=>trivial,?_⟩;rw[show (WF ro).round=ro.rd from rfl,Oper.semAt_eq _ _ _ T];by_cases hy:gA P o.op ev mu K
 .obtain ⟨f,args,U,i,R,ho,hf,hs,hk⟩:=hy
  obtain⟨dst,op,ty,pos,after,guard⟩:=o;simp only at ho J t⊢;subst ho;have rf:=g f;rw[hf]at rf;generalize hq:a.eval f=fv at rf;cases rf with
  |yl _ l a0 hb =>
  obtain⟨fn,C,a1,I,h1,h2⟩:=hs G w (args.map a.eval) s (Qh g args) l a0 hb;have:(execOp a.eval { dst,op := .call { callee := .value f,args,argTypes:=U },type:=ty,pos,after,guard }).run P w = .ok (.round l fn C a1 I) w:=by
   grind [execOp,resolve,qQ,zJ,qS,Deferred.ofValue,invoke]
  rw[this];refine⟨fun h=>by simp[WF,Fence.wide]at h,?_⟩;refine RoundIn.mono (F:=WF ro) (n:=0) h2 ?_;rintro e w' ⟨b,G',mu',rfl,a2,hR⟩;exact J _ _ _ _ _ (hk b mu' hR) a2 (.sc _ rfl)
 .exact gB (qhZ s g h hy J t)
end
end Go.Ev
namespace Go.Ev
open Go Go.RowKit
section
variable {ops:Array yj}
def pe(o:yj):List Edge:=o.after.toList.filter (Region.binds .any)
theorem WY{e}(h:Region.binds .any e=true)(m):Region.binds m e=true:=by
 grind [Region.binds,absurd]
def Zg(ops:Array yj)(i:Nat):List Nat:=match ops[i]? with|some o=>(pe o).map (·.on)|none=>[]
def gC(ops:Array yj):Bool:=(qu ops.size).all fun i=>match ops[i]? with|some o=>o.after.toList.all fun e=>decide (e.on<i)||!Region.binds .text e|none=>true
def gD(ops:Array yj):Bool:=(qu ops.size).all fun i=>match ops[i]? with|some o=>o.after.toList.all fun e=>decide (e.on<i)|none=>true
def gE(ops:List yj):Nat->List Nat->List Nat
 | 0,g=>g.reverse
 |n+1,g=>match (qu ops.length).find? fun i=>!g.contains i&&(match ops[i]? with|some o=>o.after.toList.all fun e=>!Region.binds .gc e||g.contains e.on|none=>false) with
  |some i=>gE ops n (i :: g)
  |none=>g.reverse
def WZ(ops:Array yj)(L:List Nat):Bool:=decide (L.length=ops.size)&&(qu L.length).all fun p=>match L[p]? with
 |some i=>!(L.take p).contains i&&(match ops[i]? with|some o=>o.after.toList.all fun e=>!Region.binds .gc e||(L.take p).contains e.on|none=>false)
 |none=>false
def jB(ops:Array yj):Bool:=gC ops&&(gD ops||WZ ops (gE ops.toList ops.size []))
theorem W0(h:jB ops=true):∀ i o,ops[i]?=some o->∀ e,e∈o.after.toList->Region.binds .text e=true->e.on<i:=by
 intro i o g e j l;unfold jB at h;rw[qD]at h
 grind [gC,qY,yI]
theorem gF{o e}(h:e∈pe o):e∈o.after.toList/\Region.binds .text e=true:=⟨(jg.1 h).1,WY (jg.1 h).2 .text⟩
def Topo(ops:Array yj)(L:List Nat):Prop:=∀ pre j post,L=pre++j :: post->j<ops.size/\j ∉ pre/\∀ e,e∈Zg ops j->e∈pre
theorem Topo.nil(ops):Topo ops []:=fun pre j post h=>by simp at h
theorem Topo.snoc{L j}(h:Topo ops L)(i:j<ops.size)(l:j ∉ L)(o:∀ e,e∈Zg ops j->e∈L):Topo ops (L++[j]):=by
 intro pre k post e;rcases List.eq_nil_or_concat post with rfl|⟨g,x,rfl⟩
 .simp_all
 .rw [<-List.concat_eq_append,List.concat_eq_append,List.concat_eq_append,<-yq,<-List.append_assoc]at e
  have:=List.append_inj' e rfl;exact h pre k g this.1
theorem qh0(g:List Nat){n}:∀ i,i<n->i ∉ g->∃ j,j<n/\j ∉ g/\∀ k,k<j->k∈g:=by
 intro i;induction i using Nat.strongRecOn with
 |_ i l =>
  grind
theorem W3{m}(l:∀ i o,ops[i]?=some o->∀ e,e∈o.after.toList->Region.binds m e=true->e.on<i)(g:List Nat)(p:∃ i,i<ops.size/\i ∉ g) :
  ∃ j,j<ops.size/\j ∉ g/\∀ o,ops[j]?=some o->∀ e,e∈o.after.toList->Region.binds m e=true->e.on∈g:=by
 grind [qh0]
theorem qh1{L}(h:WZ ops L=true)(g:List Nat)(J:∃ i,i<ops.size/\i ∉ g) :
  ∃ j,j<ops.size/\j ∉ g/\∀ o,ops[j]?=some o->∀ e,e∈o.after.toList->Region.binds .gc e=true->e.on∈g:=by
 unfold WZ at h;rw[qD,decide_eq_true_eq,qY]at h;obtain⟨a2,P⟩:=h;have P:∀ p,p<L.length->∃ i,L[p]?=some i/\i ∉ L.take p/\∃ o,ops[i]?=some o/\∀ e,e∈o.after.toList->Region.binds .gc e=true->e.on∈L.take p:=by
  intro p t;have:=P p (zUs t)
  grind
 have R:L.Nodup:=by
  grind [List.Nodup,List.pairwise_iff_getElem,qy,qs,uA]
 have T:∀ x,x∈L->x<ops.size:=by
  intro x C;obtain⟨p,t,e⟩:=uA.1 C;obtain⟨y,U,_,o,ho,_⟩:=P p t;rw[qy t]at U;simp only[qs]at U;rw[<-e,U];exact(yI.1 ho).1
 have I:∀ i,i<ops.size->i∈L:=by
  intro i hi;refine uL fun hn=>?_
  have h1:(i :: L).length<=(qu ops.size).length:=jl (ve.2 ⟨hn,R⟩) (fun k hk=>by
   rcases qz.1 hk with rfl|hk
   .simpa using hi
   .simpa using T k hk)
  simp at h1;omega
 obtain⟨i,hi,a0⟩:=J;have key:∀ n p,L.length=p+n->(∀ x,x∈L.take p->x∈g)->∃ q,q<L.length/\(∀ x,x∈L.take q->x∈g)/\∀ x,L[q]?=some x->x ∉ g:=by
  intro n;induction n with
  |zero =>
   intro p a1 C;rw[List.take_of_length_le zOm]at C;exact absurd (C i (I i hi)) a0
  |succ n ih =>
   intro p a1 C;by_cases hc:L[p]' zOm∈g
   .refine ih (p+1) zOm fun x l=>?_
    rw[List.take_add_one,qy zOm]at l;rcases qP.1 l with h|h
    .exact C x h
    .simp at h;rw[h];exact hc
   .refine ⟨p,zOm,C,fun x l=>?_⟩
    rw[qy zOm]at l;simp only[qs]at l;rw[<-l];exact hc
 obtain⟨q,hq,h1,h2⟩:=key L.length 0 zOm zSp
 grind
theorem qh2(h:jB ops=true)(m)(g:List Nat)(l:∃ i,i<ops.size/\i ∉ g) :
  ∃ j,j<ops.size/\j ∉ g/\∀ o,ops[j]?=some o->∀ e,e∈o.after.toList->Region.binds m e=true->e.on∈g:=by
 have C:=W0 h;cases m with
 |text=>exact W3 C g l
 |any=>exact W3 (fun i o I e J p=>C i o I e J (WY p .text)) g l
 |gc =>
  unfold jB at h;rw[qD,Yg]at h;rcases h.2 with t|t
  .refine W3 (fun i o I e J _=>?_) g l
   unfold gD at t
   grind
  .exact qh1 t g l
theorem qh3(I:jB ops=true)(m):∀ fuel t listed g,fuel+g.length=ops.size->listed.size=ops.size ->
  (∀ i,i<ops.size->(listed.getD i true=true↔i∈g))->Topo ops g.reverse->g.Nodup->(∀ i,i∈g->i<ops.size) ->
  Topo ops (Region.linearise.go m ops fuel t listed g)/\(Region.linearise.go m ops fuel t listed g).length=ops.size:=by
 have a0:=W0 I;have l:=qh2 I m;intro fuel;induction fuel with
 |zero =>
  grind [Region.linearise.go]
 |succ fuel ih =>
  intro t listed g hf hs hl ht hn hb;simp only[Region.linearise.go];generalize a1:((qu ops.size).filter fun i=>!listed.getD i true&&((ops[i]?).map (·.after.all fun e=>!Region.binds m e||listed.getD e.on false)).getD false)=o;have J:∀ i,i∈o->i<ops.size/\i ∉ g/\∀ e,e∈Zg ops i->e∈g:=by
   intro i p;rw[<-a1,jg]at p;obtain⟨U,h2⟩:=p;have U:i<ops.size:=zUs U;simp only[qD,Bool.not_eq_true']at h2;refine⟨U,fun h=>?_,fun e C=>?_⟩
   .grind
   .unfold Zg at C
    have ho:ops[i]?=some ops[i]:=zP1 U;rw[ho]at C;simp only[qp]at C;obtain⟨x,a2,rfl⟩:=C;obtain⟨hx,a3⟩:=jg.1 a2;have h3:=h2.2;rw[ho]at h3;simp only[zh,Option.getD_some]at h3;have h4:=(Array.all_eq_true'.1 h3) x (zUs hx);rw[WY a3 m]at h4
    grind
  have a4:o≠[]:=by
   have a5:∃ i,i<ops.size/\i ∉ g:=by
    refine uL fun a6=>?_
    have P:∀ i,i<ops.size->i∈g:=fun i p=>uL fun h=>a6 ⟨i,p,h⟩
    have:(qu ops.size).length<=g.length:=jl (List.nodup_range) (fun i p=>P i (zUs p));simp at this;omega
   obtain⟨j,hj,a9,a8⟩:=l g a5
   grind
  have R:0<o.length:=List.length_pos_iff.2 a4;have T:t % o.length<o.length:=Nat.mod_lt _ R;rw[qy T];simp only;obtain⟨g1,g2,g3⟩:=J _ (List.getElem_mem T);generalize o[t % o.length]=i at g1 g2 g3;refine ih _ _ _ zSo (zP1 hs) ?_ ?_ (ve.2 ⟨g2,hn⟩) (fun k hk=>?_)
  .intro k hk
   by_cases a7:k=i
   .subst a7
    have:k<listed.size:=zOm;simp[qU,this]
   .have:=hl k hk
    simp only[qU]at this⊢
    grind
  .rw [List.reverse_cons]
   exact ht.snoc g1 (zUs g2) (fun e C=>by simpa using g3 e C)
  grind
theorem gG(j:jB ops=true)(g t):Topo ops (Region.schedule g ops t)/\(Region.schedule g ops t).length=ops.size:=by
 have key:∀(m:Region.Mode)(t:Nat),Topo ops (Region.linearise m ops t)/\(Region.linearise m ops t).length=ops.size:=by
  intro m t;unfold Region.linearise;exact qh3 j m ops.size t _ [] zSp zSp (fun i l=>by simp[qU,l]) (Topo.nil ops) List.nodup_nil zSp
 unfold Region.schedule;split
 .exact key _ _
 .exact key _ _
def Qi(g:List Nat)(o:yj):Nat:=(pe o).foldl (fun s e=>s ||| (2 ^ e.on ||| g.getD e.on 0)) 0
def uP:List yj->List Nat->List Nat
 | [],g=>g
 |o :: l,g=>uP l (g++[Qi g o])
theorem gH:∀ l g,∃ r,uP l g=g++r/\r.length=l.length
 | [],g=>⟨[],by simp[uP],rfl⟩
 |o :: l,g=>by
  obtain⟨r,i,j⟩:=gH l (g++[Qi g o])
  grind [Qi,uP]
theorem gJ(f:Edge->Nat)(i):∀(l:List Edge)(s),(l.foldl (fun s e=>s ||| f e) s).testBit i=true->s.testBit i=true\/∃ e,e∈l/\(f e).testBit i=true
 | [],s,h => .inl h
 |e :: l,s,h=>by
  simp only[List.foldl_cons]at h;rcases gJ f i l _ h with h|⟨g,j,o⟩
  .grind
  grind
def jb(ops:Array yj)(j:Nat):Nat:=(uP ops.toList []).getD j 0
theorem gK:∀ l g k o,l[k]?=some o->(∀ e,e∈(pe o)->e.on<g.length+k) ->
  (uP l g).getD (g.length+k) 0=(pe o).foldl (fun s e=>s ||| (2 ^ e.on ||| (uP l g).getD e.on 0)) 0
 | [],g,k,o,h,_=>by simp at h
 |x :: l,g,k,o,h,j=>by
  simp only[uP];cases k with
  |zero =>
   simp at h;subst h;obtain⟨r,p,C⟩:=gH l (g++[Qi g x]);rw[p];have t:(g++[Qi g x]++r).getD (g.length+0) 0=Qi g x:=by simp[zH]
   rw[t];unfold Qi;have key:∀(J:List Edge)(s:Nat),(∀ e,e∈J->e.on<g.length)->J.foldl (fun s e=>s ||| (2 ^ e.on ||| g.getD e.on 0)) s=J.foldl (fun s e=>s ||| (2 ^ e.on ||| (g++[(pe x).foldl (fun s e=>s ||| (2 ^ e.on ||| g.getD e.on 0)) 0]++r).getD e.on 0)) s:=by
    intro J;induction J with
    |nil=>intro s _;rfl
    |cons e J I =>
     grind
   grind
  |succ k =>
   have:=gK l (g++[Qi g x]) k o (zUs h) (fun e i=>by have:=j e i;simp;omega);rw[show (g++[Qi g x]).length+k=g.length+(k+1) by simp;omega]at this;exact this
theorem qh4(l:jB ops=true){j i}(t:j<ops.size)(h:(jb ops j).testBit i=true):∃ e,e∈Zg ops j/\(i=e\/(jb ops e).testBit i=true):=by
 have g:=W0 l;have o:ops[j]?=some ops[j]:=zP1 t;have C:Zg ops j=(pe ops[j]).map (·.on):=by unfold Zg;rw[o]
 have:=gK ops.toList [] j ops[j] zSp (fun e p=>by
  have:=g j _ o e (gF p).1 (gF p).2;simp;omega)
 simp only[List.length_nil,Nat.zero_add]at this;unfold jb at h⊢;rw[this]at h;rcases gJ _ i _ _ h with h|⟨e,I,J⟩
 .simp at h
 grind
def W4(ops:Array yj)(S:Nat->Prop):Prop:=∀ j,S j->j<ops.size/\∀ i,(jb ops j).testBit i=true->S i
theorem W4.mask(g:jB ops=true){S}(t:W4 ops S){j}(C:j<ops.size)(o:∀ e,e∈Zg ops j->S e) :
  ∀ i,(jb ops j).testBit i=true->S i:=by
 intro i I;obtain⟨e,p,l⟩:=qh4 g C I;rcases l with rfl|l
 .exact o i p
 .exact (t e (o e p)).2 i l
def Bef(L:List Nat)(i k:Nat):Prop:=∀ p q,L=p++k :: q->i∈p
theorem s6:∀{L i k},i∈L->k∈L->i≠k->Bef L i k\/Bef L k i
 | [],i,k,h,_,_=>absurd h zSp
 |x :: l,i,k,J,P,g=>by
  have cons:∀{i k:Nat},Bef l i k->x≠k->Bef (x :: l) i k:=by
   intro i k h R p q e;cases p with
   |nil=>grind
   |cons y C =>
    simp only[yq,vK]at e;exact q9 _ (h C q e.2)
  have head:∀{k:Nat},x≠k->Bef (x :: l) x k:=by
   intro k R p q e;cases p with
   |nil=>grind
   |cons y C =>
    grind
  by_cases j:x=i
  .subst j;exact .inl (head g)
  .by_cases I:x=k
   .grind
   .have o:i∈l:=by simpa[Ne.symm j] using J
    have t:k∈l:=by simpa[Ne.symm I] using P
    rcases s6 o t g with h|h
    .exact .inl (cons h I)
    .exact .inr (cons h j)
theorem Topo.pre{p j}(h:Topo ops (p++[j])):Topo ops p:=fun pre k post e=>h pre k (post++[j]) (by rw[e];simp)
theorem s7:∀(q){p},Topo ops (p++q)->Topo ops p
 | [],p,h=>zUs h
 |j :: q,p,h=>by
  grind [Topo]
theorem s8(o:jB ops=true):∀ n p,p.length=n->Topo ops p->W4 ops (·∈p)/\p.Nodup:=by
 intro n;induction n with
 |zero=>intro p l _;have:=uM l;subst this;exact⟨fun j t=>by simp at t,List.nodup_nil⟩
 |succ n T =>
  intro p l P;rcases List.eq_nil_or_concat p with rfl|⟨R,j,rfl⟩
  .simp at l
  .rw [List.concat_eq_append]at *
   obtain⟨C,hn⟩:=T R (zUs l) P.pre;obtain⟨t,U,I⟩:=P R j [] rfl;have J:=C.mask o t I;refine⟨fun k g=>?_,?_⟩
   .rcases qP.1 g with g|g
    .exact ⟨(C k g).1,fun i hi=>qP.2 (.inl ((C k g).2 i hi))⟩
    grind
   grind
theorem Topo.bef(g:jB ops=true){L}(l:Topo ops L){i k}(h:(jb ops k).testBit i=true):Bef L i k:=by
 intro p q e;obtain⟨o,_,j⟩:=l p k q e;have t:=(s8 g _ p rfl (s7 (k :: q) (by rw[<-e];exact l))).1;exact t.mask g o j i h
end
end Go.Ev
namespace Go.Ev
open Go Go.RowKit
section
variable {G G':Gh}{dl:List Deferred}{mu:Mu}{i:Nat}{w w':qe}
theorem Yn{j c}(h:(mu.set i .dead)[j]?=some c)(g:c ≠ .dead):j≠i/\mu[j]?=some c:=by
 grind
theorem Live.hid{b}(h:Live G (mu.set i .dead) b):Live G mu b:=by
 obtain⟨j,c,g,o,l,p⟩:=h;exact⟨j,c,g,(Yn o l).2,l,p⟩
theorem Sim.hid{h}(s:Sim G mu h)(i):Sim G (mu.set i .dead) h:=by
 refine⟨by simpa using s.len,s.imm,fun j c g l t o p=>s.obj j c g l (Yn t o).2 o p,fun j c g l t o p=>s.live j c g l (Yn t o).2 o p,?_,s.tab⟩;intro j k I J b P tk t o p C R T;exact s.inj j k I J b P tk (Yn t p).2 (Yn o C).2 p C R T
theorem Sim.hid_not{h}(s:Sim G mu h){i b t c}(p:mu[i]?=some c)(C:c ≠ .dead)(I:G.blk[i]?=some (b,t)):¬Live G (mu.set i .dead) b:=by
 rintro⟨j,J,g,P,o,R⟩;obtain⟨l,T⟩:=Yn P o;exact l (s.inj j i J c b g t T p o C R I)
theorem Stp.unhid{M m b t c}(s:Sim G M w.heap)(hc:M[i]?=some c)(hd:c ≠ .dead)(hb:G.blk[i]?=some (b,t))(T:Stp G (M.set i .dead) w G' m w') :
  m[i]?=some .dead/\w'.heap[b]?=w.heap[b]?/\Stp G M w G' (m.set i c) w':=by
 have hn:=s.hid_not hc hd hb;obtain⟨o,ho,hr⟩:=s.obj i c b t hc hd hb;have a0:b<w.heap.size:=(yI.1 ho).1;have hk:w'.heap[b]?=w.heap[b]?:=T.keep b a0 hn;have C:G'.blk[i]?=some (b,t):=T.le.blk _ _ hb;have R:¬Live G' m b:=fun h=>(T.live b h).elim hn (fun g=>absurd a0 (Nat.not_lt.2 g))
 have hi:i<m.length:=by rw[<-T.sim.len];grind
 have hm:m[i]?=some .dead:=by
  have e:m[i]?=some m[i]:=qy hi;rw[e];by_cases hq:m[i] = .dead
  .rw [hq]
  .exact absurd ⟨i,m[i],t,e,hq,C⟩ R
 have a1:¬G'.imm b:=fun h=>by
  rcases T.inew b h with h|h|h
  .exact s.live i c b t hc hd hb h
  .exact hn h
  omega
 have a2:Ext G w.heap w'.heap:=T.ext (s.hid i);have l:∀(j:Nat)(x:Cell),(m.set i c)[j]?=some x->x ≠ .dead->(j=i/\x=c)\/(j≠i/\m[j]?=some x):=by
  intro j x hj hx;by_cases e:i=j
  .grind
  grind
 refine⟨hm,hk,T.le,⟨by simpa using T.sim.len,T.sim.imm,?_,?_,?_,T.sim.tab⟩,?_,T.size,?_,?_,T.tape,T.os,T.output,T.drawn⟩
 .intro j x U I h1 J p
  rcases l j x h1 J with ⟨rfl,rfl⟩|⟨_,P⟩
  .rw [C]at p
   obtain⟨rfl,rfl⟩:=Prod.mk.inj (Option.some.inj p);exact⟨o,by rw[hk];exact ho,hr.mono T.le a2⟩
  .exact T.sim.obj j x U I P J p
 .intro j x U I h1 J p
  rcases l j x h1 J with ⟨rfl,rfl⟩|⟨_,P⟩
  .rw [C]at p
   obtain⟨rfl,rfl⟩:=Prod.mk.inj (Option.some.inj p);exact a1
  .exact T.sim.live j x U I P J p
 .intro j k cj ck b' tj tk h1 J p P h5 h6
  rcases l j cj h1 p with ⟨rfl,rfl⟩|⟨e1,g1⟩<;>rcases l k ck J P with ⟨rfl,rfl⟩|⟨e2,g2⟩
  .rfl
  .rw [C]at h5
   obtain⟨rfl,rfl⟩:=Prod.mk.inj (Option.some.inj h5);exact absurd ⟨k,ck,tk,g2,P,h6⟩ R
  .rw [C]at h6
   obtain⟨rfl,rfl⟩:=Prod.mk.inj (Option.some.inj h6);exact absurd ⟨j,cj,tj,g1,p,h5⟩ R
  .exact T.sim.inj j k cj ck b' tj tk g1 g2 p P h5 h6
 .intro x hx hl
  exact T.keep x hx (fun h=>hl h.hid)
 .rintro x ⟨j,cj,I,h1,J,p⟩
  rcases l j cj h1 J with ⟨rfl,rfl⟩|⟨_,P⟩
  .rw [C]at p
   obtain⟨rfl,rfl⟩:=Prod.mk.inj (Option.some.inj p);exact .inl ⟨j,cj,t,hc,hd,hb⟩
  .exact (T.live x ⟨j,cj,I,P,J,p⟩).imp (fun h=>h.hid) id
 .intro x hx
  rcases T.inew x hx with h|h|h
  .exact .inl h
  .exact .inr (.inl h.hid)
  .exact .inr (.inr h)
theorem Stp.drop{M}(s:Sim G M w.heap)(i):Stp G M w G (M.set i .dead) w:=
 ⟨.refl G,s.hid i,fun _ _ _=>rfl,qn _,fun _ h => .inl h.hid,fun _ h => .inl h,rfl,rfl,rfl,qn _⟩
theorem Sim.putOther{M}(s:Sim G M w.heap){D o}(J:¬Live G M D)(P:¬G.imm D):Sim G M (w.putObj D o).heap:=by
 have g:Ext G w.heap (w.putObj D o).heap:=⟨zSp,fun b p=>wt (fun e=>P (e ▸ p))⟩;refine⟨s.len,fun b p=>by have:=s.imm b p;simp_all,?_,s.live,s.inj,s.tab.mono (fun _ h=>h) g.keep⟩;intro j x i l t C I;obtain⟨R,T,U⟩:=s.obj j x i l t C I;refine⟨R,?_,U.mono (.refl G) g⟩;rw[wt (fun (e:i=D)=>J ⟨j,x,l,t,C,e ▸ I⟩)];exact T
structure Mk (G:Gh) (mu:Mu) (h:Array Obj) (D:Nat):Prop where
 obj:h[D]?=some (.deferred (some []))
 nlive:¬Live G mu D
 nimm:¬G.imm D
theorem Mk.step{mu' D}(m:Mk G mu w.heap D)(t:Stp G mu w G' mu' w'):Mk G' mu' w'.heap D:=by
 have i:D<w.heap.size:=(yI.1 m.obj).1;refine⟨by rw[t.keep D i m.nlive];exact m.obj,fun h=>?_,fun h=>?_⟩
 .exact (t.live D h).elim m.nlive (fun g=>absurd i (Nat.not_lt.2 g))
 .rcases t.inew D h with h|h|h
  .exact m.nimm h
  .exact m.nlive h
  omega
def mkOf(D:Nat):Deferred:={ target := .collected D,args:=#[] }
def Dfs(dl:List Deferred)(mk:Bool)(base:Nat)(G:Gh)(mu:Mu)(h:Array Obj)(ds:List Deferred):Prop:=∃ g:List Nat,(ds=g.map mkOf++dl/\(mk=false->g=[]))/\g.Nodup/\∀ D,D∈g->base<=D/\Mk G mu h D
theorem Dfs.nil(dl mk base G mu h):Dfs dl mk base G mu h dl:=⟨[],⟨rfl,fun _=>rfl⟩,List.nodup_nil,zSp⟩
theorem Dfs.step{mk base mu' ds}(d:Dfs dl mk base G mu w.heap ds)(t:Stp G mu w G' mu' w'):Dfs dl mk base G' mu' w'.heap ds:=by
 obtain⟨j,l,o,g⟩:=d;exact⟨j,l,o,fun D i=>⟨(g D i).1,(g D i).2.step t⟩⟩
def wB:List Nat->qe->qe
 | [],w=>w
 | D :: g,w=>wB g (w.putObj D (.deferred none))
theorem W5{P F n fn g R u}(l:u ≠ .run):∀ i w,i.Nodup->(∀ D,D∈i->w.heap[D]?=some (.deferred (some []))) ->
  LeavesInM F n P fn g R dl u (wB i w)->LeavesInM F n P fn g R (i.map mkOf++dl) u w
 | [],w,_,_,h=>h
 | D :: i,w,o,p,h=>by
  obtain⟨t,j⟩:=ve.1 o;refine⟨l,.inl ⟨D,w.putObj D (.deferred none),rfl,run_takeDeferred (p D zSp),W5 l i _ j (fun E C=>?_) h⟩⟩
  grind [wt]
theorem gL{o i l}:∀ j w,j.Nodup->(∀ D,D∈j->l.heap.size<=D/\Mk G mu w.heap D)->Stp o i l G mu w ->
  Stp o i l G mu (wB j w)/\Ext G w.heap (wB j w).heap
 | [],w,_,_,t=>⟨t,Ext.refl _ _⟩
 | D :: j,w,T,p,t=>by
  obtain⟨C,I⟩:=ve.1 T;obtain⟨hb,J⟩:=p D zSp;have t1:Stp o i l G mu (w.putObj D (.deferred none)):=by
   refine⟨t.le,t.sim.putOther J.nlive J.nimm,fun b g U=>?_,by simpa using t.size,t.live,t.inew,t.tape,t.os,t.output,t.drawn⟩;rw[wt zOm];exact t.keep b g U
  obtain⟨h1,R⟩:=gL j (w.putObj D (.deferred none)) I (fun E P=>⟨(p E (zP1 P)).1,by
   have m:=(p E (zP1 P)).2;exact⟨by rw[wt (fun (e:E=D)=>C (e ▸ P))];exact m.obj,m.nlive,m.nimm⟩⟩) t1
  .refine ⟨h1,⟨Nat.le_trans zSp R.size,fun b g=>?_⟩⟩
   have:=R.keep b g;simp only[wB];rw[this,wt (fun (e:b=D)=>J.nimm (e ▸ g))]
end
end Go.Ev
namespace Go.Ev
open Go Go.RowKit
section
variable {a:Act}{ops:Array yj}{G:Gh}{g m mu mu':Mu}{o:yj}{ev':qh->AV}{pl:Pol}{P:qc}{st:St}{w:qe}
def Br(b:Bool)(p q:Prop):Prop:=(b=true->p)/\(b=false->q)
def Yo:AV->Bool->Option Bool
 | .sc (.bool b),g=>some (b == g)
 | .sc _,_=>some false
 |_,_=>none
def yN(ops:Array yj)(st:St)(o:yj):Option Bool:=
 match o.guard with
 |none=>some true
 |some (j,g)=>match (ops[j]?).bind (·.dst) with
  |none=>some false
  |some d=>Yo (st.tm d) g
def awpS(P:qc)(pl:Pol)(det:Bool)(ops:Array yj):List yj->(St->Prop)->(AV->St->Prop)->St->Prop
 | [],Q,_,U=>Q U
 |o :: l,Q,g,U=>OptK (yN ops U o) fun b =>
   Br b (qH P pl det o.dst o.op U.ev U.mu (fun v m=>awpS P pl det ops l Q g (U.put o.dst v m)) (fun v m=>g v ⟨U.tm,m⟩)) (awpS P pl det ops l Q g (U.put o.dst (.sc z6) U.mu))
structure Rel (ro:Ro) (G0:Gh) (mu0:Mu) (w0:qe) (n:Nat) (G:Gh) (st:St) (a:Act) (w:qe):Prop where
 tm:∀ i,VRel G w.heap (st.tm i) (a.tmps.getD i z6)
 df:ro.rd=none->Dfs ro.dl ro.mks w0.heap.size G st.mu w.heap a.defers
 size:a.tmps.size=n
 stp:Stp G0 mu0 w0 G st.mu w
 kp:∀ p,p∈ro.kp->VRel G w.heap p.1 p.2
theorem Rel.ev{ro j i l n}(r:Rel ro j i l n G st a w)(x):VRel G w.heap (st.ev x) (a.eval x):=by
 cases x with
 |tmp t=>exact r.tm t
 |const v=>exact .ofV v
 |global g=>exact .any _
 |func f=>exact .fn _ [] [] _ _ rfl rfl zSp zSp
def dOk(n:Nat):Option Tmp->Bool|some d=>decide (d<n)|none=>true
theorem Rel.put{ro j l n G' w' v u d}(I:Sim j g l.heap)(r:Rel ro j g l n G st a w)(t:Stp G st.mu w G' m w')(P:VRel G' w'.heap v u)
  (o:dOk n d=true):Rel ro j g l n G' (st.put d v m) (a.put d u) w':=by
 refine⟨fun i=>?_,?_,?_,r.stp.trans I t,fun p J=>t.vrel r.stp.sim (r.kp p J)⟩
 .cases d with
  |none=>exact t.vrel r.stp.sim (r.tm i)
  |some d =>
   simp only[dOk,decide_eq_true_eq]at o;simp only[St.put,Act.put];by_cases C:i=d
   .subst C
    rw[if_pos rfl];have:i<a.tmps.size:=by rw[r.size];exact o
    simp_all
   .rw [if_neg C]
    have:(a.tmps.setIfInBounds d u).getD i z6=a.tmps.getD i z6:=by
     simp only[qU]
     grind
    rw[this];exact t.vrel r.stp.sim (r.tm i)
 .intro h
  have:=(r.df h).step t;cases d<;>exact this
 .cases d with
  |none=>exact r.size
  |some d=>simp[Act.put,r.size]
theorem Rel.drew{ro i j n}(l:Sim i g j.heap)(r:Rel ro i g j n G st a w):Rel ro i g j n G st a w.drew:=
 ⟨r.tm,r.df,r.size,r.stp.trans l (Stp.drew r.stp.sim),r.kp⟩
theorem Ub{ro C l I n}(r:Rel ro C l I n G st a w){ops o b}(h:yN ops st o=some b):Region.wanted o (yielded ops a.tmps)=b:=by
 unfold yN at h;unfold Region.wanted;cases i:o.guard with
 |none=>rw[i]at h;simpa using h
 |some q =>
  obtain⟨j,t⟩:=q;rw[i]at h;simp only at h⊢;unfold yielded;cases J:(ops[j]?).bind (·.dst) with
  |none=>grind
  |some d =>
   rw[J]at h;simp only[Option.bind_some]at h⊢;have rd:=r.tm d;have g:a.tmps[d]?=some (a.tmps.getD d z6)\/a.tmps[d]?=none/\a.tmps.getD d z6=z6:=by
    simp only[qU]
    grind
   unfold Yo at h;split at h
   .rename_i P p
    simp only[qs]at h;subst h;rw[p]at rd;generalize a.tmps.getD d z6=v at rd g;cases rd;rcases g with i|⟨_,i⟩
    .grind
    .exact absurd i (by simp[z6])
   .rename_i v R p
    simp only[qs]at h;subst h;rw[p]at rd;generalize a.tmps.getD d z6=T at rd g;cases rd;rcases g with i|⟨i,_⟩
    .grind
    .rw [i];rfl
   grind
theorem gM{ro l2 t C n}(I:Sim t g C.heap){Q Qp QQ}
  (hQ:∀ st a w G,Q st->Rel ro t g C n G st a w->wpListIn (WF ro) 0 P ops QQ l2 a w)
  (J:∀ v st a w G u,Qp v st->Rel ro t g C n G st a w->VRel G w.heap v u->QQ (.panic [{ v:=u,recovered:=false }]) a w) :
  ∀ l st a w G,Rel ro t g C n G st a w->(l.all fun o=>dOk n o.dst)=true->awpS P pl false ops l Q Qp st->wpListIn (WF ro) 0 P ops QQ (l++l2) a w:=by
 intro l;induction l with
 |nil=>intro st a w G r _ h;exact hQ st a w G h r
 |cons o l ih =>
  intro st a w G r p h;simp only[List.all_cons,qD]at p;obtain⟨b,hb,h1,h2⟩:=h;have hw:=Ub r hb;simp only[yq,wpListIn,hw];cases b with
  |false =>
   rw[if_neg zSp];exact⟨fun _ _=>trivial,ih _ _ _ G (r.put I (Stp.refl r.stp.sim) (.sc _ rfl) p.1) p.2 (h2 rfl)⟩
  |true =>
   rw[if_pos rfl];refine Ua r.stp.sim r.ev (h1 rfl) ?_ ?_
   .intro v R T w' u U j hv
    exact ih _ _ _ T (r.put I j hv p.1) p.2 U
   .intro v R T w' u U j hv
    refine J v ⟨st.tm,R⟩ a w' T u U ?_ hv;exact r.put (d:=none) I j (.any z6) rfl
theorem Uc{ro j p n}(I:Sim j g p.heap){Q C QQ}
  (J:∀ st a w G,Q st->Rel ro j g p n G st a w->QQ .normal a w)
  (t:∀ v st a w G u,C v st->Rel ro j g p n G st a w->VRel G w.heap v u->QQ (.panic [{ v:=u,recovered:=false }]) a w) :
  ∀ l st a w G,Rel ro j g p n G st a w->(l.all fun o=>dOk n o.dst)=true->awpS P pl false ops l Q C st->wpListIn (WF ro) 0 P ops QQ l a w:=by
 intro l st a w G r R h;have:=gM (l2:=[]) I (fun st a w G T r=>J st a w G T r) t l st a w G r R h
 grind
def memW(pl:Pol)(o:yj):Bool:=
 match o.op with
 | .alloc _ | .store .. | .makeSlice .. | .mapUpdate .. | .mapEntry .. | .entryStore .. | .makeMap .. | .insert .. | .range .. | .next .. => true
 | .box .. => o.dst.any pl.mt.contains
 | .call c=>match c.callee with | .builtin .append | .builtin .copy | .builtin .delete | .builtin .clear=>true|_=>false
 |_=>false
def memR(o:yj):Bool:=
 match o.op with
 | .load .. | .call _ | .lookup .. | .entry .. => true
 |_=>false
def W6(l:Array qh):List Tmp:=l.toList.filterMap fun | .tmp t=>some t|_=>none
def Qj(ops:Array yj)(o:yj):List Tmp:=
 W6 o.op.operands++(match o.guard with|some (j,_)=>((ops[j]?).bind (·.dst)).toList|none=>[])
def W7(pl:Pol)(o:yj):Bool:=
 match o.op with
 | .alloc _ | .makeSlice .. | .makeMap .. => true
 | .box .. => o.dst.any pl.mt.contains
 |_=>false
def reads(pl:Pol)(o:yj):Bool:=memR o&&!memW pl o
def soft(pl:Pol)(a b:yj):Bool:=
 (match a.op,b.op with
 | .lookup t _ _ false,.mapEntry g _ _=>t == g
 |_,_=>false)||(reads pl a&&W7 pl b)
def yW(pl:Pol)(ops:Array yj)(a b:yj):Bool:=
 (memW pl a&&(memW pl b||memR b))||(memR a&&memW pl b&&!soft pl a b) ||
 (match a.dst with|some d=>(Qj ops b).contains d||b.dst == some d|none=>false) ||
 (match b.dst with|some d=>(Qj ops a).contains d|none=>false)
def JL(pl:Pol)(ops:Array yj):Bool:=
 jB ops&&(let g:=uP ops.toList [];(qu ops.size).all fun j=>(qu j).all fun i =>
  match ops[i]?,ops[j]? with|some a,some b=>!yW pl ops a b||(g.getD j 0).testBit i|_,_=>true)
theorem qh5(h:JL pl ops=true):jB ops=true/\∀(i j) a b,i<j->ops[i]?=some a->ops[j]?=some b->yW pl ops a b=true->(jb ops j).testBit i=true:=by
 unfold JL at h;rw[qD]at h;refine⟨h.1,fun i j a b g p l t=>?_⟩;have C:j<ops.size:=(yI.1 l).1;have o:=h.2;simp only[qY,zW]at o;have:=o j C i g;rw[p,l]at this;simp only[t,Bool.not_true,Bool.false_or]at this;exact this
def Ud(pl:Pol)(ops:Array yj)(a b:Nat):Bool:=
 jB ops&&(let g:=uP ops.toList [];(qu ops.size).all fun j=>(qu j).all fun i=>(i == a&&j == b) ||
  match ops[i]?,ops[j]? with|some x,some y=>!yW pl ops x y||(g.getD j 0).testBit i|_,_=>true) &&
 (qu b).all fun k=>!(decide (a<k))||match ops[k]?,ops[a]? with|some x,some y=>!yW pl ops x y|_,_=>true
theorem qh6{a b}(h:Ud pl ops a b=true):jB ops=true/\(∀(i j) x y,i<j->¬(i=a/\j=b)->ops[i]?=some x->ops[j]?=some y->yW pl ops x y=true->(jb ops j).testBit i=true) /\
  ∀(k) x y,a<k->k<b->ops[k]?=some x->ops[a]?=some y->yW pl ops x y=false:=by
 unfold Ud at h;rw[qD,qD]at h;refine⟨h.1.1,fun i j x y l o C p I=>?_,fun k x y J g P R=>?_⟩
 .have T:j<ops.size:=(yI.1 p).1
  have g:=h.1.2;simp only[qY,zW]at g;have:=g j T i l;rw[C,p,Yg]at this;rcases this with this|this
  .simp at this;exact absurd this o
  .simp only[I,Bool.not_true,Bool.false_or]at this
   exact this
 .have t:=h.2
  simp only[qY,zW]at t;have:=t k g;rw[P,R]at this;simpa[J] using this
def DS(P:qc)(pl:Pol)(o:yj)(ev:qh->AV)(mu:Mu)(v:AV)(m:Mu):Prop:=qH P pl true o.dst o.op ev mu (fun a b=>a=v/\b=m) (fun _ _=>False)
theorem qH.det{ev K t}(h:qH P pl true o.dst o.op ev mu K t):∃ v m,DS P pl o ev mu v m/\K v m:=by
 unfold DS;generalize o.dst=C at *
 cases I:o.op<;>rw[I]at h<;>simp only[qH]at h⊢<;>try (exact h.elim)
 case move=>exact⟨_,_,⟨rfl,rfl⟩,h⟩
 case assign=>exact⟨_,_,⟨rfl,rfl⟩,h⟩
 case makeFunc=>exact⟨_,_,⟨rfl,rfl⟩,h⟩
 case pick=>grind
 case alloc=>obtain⟨z,i,j,J⟩:=h;exact⟨_,_,⟨z,i,j,rfl,rfl⟩,J⟩
 case box =>
  grind
 case build=>obtain⟨l,z,i,j⟩:=h;exact⟨_,_,⟨l,z,i,rfl,rfl⟩,j⟩
 case buildSlice=>obtain⟨z,i,j⟩:=h;exact⟨_,_,⟨z,i,rfl,rfl⟩,j⟩
 case load=>obtain⟨z,i,j⟩:=h;exact⟨_,_,⟨z,i,rfl,rfl⟩,j⟩
 case store=>obtain⟨z,i,j⟩:=h;exact⟨_,_,⟨z,i,rfl,rfl⟩,j⟩
 case nilCheck=>obtain⟨z,i,j⟩:=h;exact⟨_,_,⟨z,i,rfl,rfl⟩,j⟩
 case binOp =>
  split at h
  .rename_i p
   simp only[if_pos p];obtain⟨z,T,U⟩:=h.det
   grind
  .rename_i p
   simp only[if_neg p];obtain⟨z,i,j⟩:=h;exact⟨_,_,⟨z,i,rfl,rfl⟩,j⟩
 case unOp=>obtain⟨z,i,j⟩:=h;exact⟨_,_,⟨z,i,rfl,rfl⟩,j⟩
 case convert=>obtain⟨l,z,i,j⟩:=h;exact⟨_,_,⟨l,z,i,rfl,rfl⟩,j⟩
 case makeInterface=>grind
 case makeSlice=>obtain⟨z,i,j⟩:=h;exact⟨_,_,⟨z,i,rfl,rfl⟩,j⟩
 case slice=>obtain⟨l,z,i,j⟩:=h;exact⟨_,_,⟨l,z,i,rfl,rfl⟩,j⟩
 case fieldAddr=>obtain⟨z,i,j⟩:=h;exact⟨_,_,⟨z,i,rfl,rfl⟩,j⟩
 case field=>obtain⟨z,i,j⟩:=h;exact⟨_,_,⟨z,i,rfl,rfl⟩,j⟩
 case indexAddr=>obtain⟨z,i,j⟩:=h;exact⟨_,_,⟨z,i,rfl,rfl⟩,j⟩
 case index=>obtain⟨z,i,j⟩:=h;exact⟨_,_,⟨z,i,rfl,rfl⟩,j⟩
 case extract=>obtain⟨z,i,j⟩:=h;exact⟨_,_,⟨z,i,rfl,rfl⟩,j⟩
 case typeAssert=>obtain⟨z,i,j⟩:=h;exact⟨_,_,⟨z,i,rfl,rfl⟩,j⟩
 case makeMap=>grind
 case lookup=>obtain⟨z,i,j⟩:=h;exact⟨_,_,⟨z,i,rfl,rfl⟩,j⟩
 case mapUpdate=>obtain⟨z,i,j⟩:=h;exact⟨_,_,⟨z,i,rfl,rfl⟩,j⟩
 case insert=>obtain⟨z,i,j⟩:=h;exact⟨_,_,⟨z,i,rfl,rfl⟩,j⟩
 case mapEntry=>obtain⟨z,i,j⟩:=h;exact⟨_,_,⟨z,i,rfl,rfl⟩,j⟩
 case entryStore=>obtain⟨z,i,j⟩:=h;exact⟨_,_,⟨z,i,rfl,rfl⟩,j⟩
 case range=>obtain⟨z,i,j⟩:=h;exact⟨_,_,⟨z,i,rfl,rfl⟩,j⟩
 case next=>exact absurd h.1 zSp
 case entry=>obtain⟨z,i,j⟩:=h;exact⟨_,_,⟨z,i,rfl,rfl⟩,j⟩
 case panic=>exact absurd h.1 zSp
 case call c =>
  obtain⟨callee,args,R⟩:=c;cases callee with
  |invoke r m=>exact h.elim
  |value f =>
   rcases h with ⟨v,i,j⟩|⟨i,_⟩
   .exact ⟨_,_,.inl ⟨v,i,rfl,rfl⟩,j⟩
   .exact absurd i zSp
  |builtin b =>
   cases b<;>simp only at h⊢<;>try (first | (obtain⟨z,m,i,j⟩:=h;exact⟨_,_,⟨z,m,i,rfl,rfl⟩,j⟩) | (obtain⟨z,i,j⟩:=h;exact⟨_,_,⟨z,i,rfl,rfl⟩,j⟩))
   obtain⟨s,x,i,h⟩:=h;obtain⟨v,m,g,k⟩:=h.det;exact⟨v,m,⟨s,x,i,g⟩,k⟩
theorem DS.mem{ev v}(h:DS P pl o ev mu v m)(l:memW pl o=false):m=mu/\(memR o=false->∀ i,DS P pl o ev i v i):=by
 unfold DS at *
 unfold memW at l;unfold memR;cases C:o.op<;>rw[C]at h l<;>simp only[qH]at h⊢<;>try (exact h.elim)
 case move=>grind
 case assign=>grind
 case makeFunc=>grind
 case pick=>grind
 case alloc=>exact absurd l zSp
 case box =>
  grind
 case build=>obtain⟨p,z,j,g⟩:=h;exact⟨g.2.symm,fun _ i=>⟨p,z,j,g.1,by first|rfl|trivial⟩⟩
 case buildSlice=>obtain⟨z,j,g⟩:=h;exact⟨g.2.symm,fun _ i=>⟨z,j,g.1,by first|rfl|trivial⟩⟩
 case load=>obtain⟨z,j,g⟩:=h;grind
 case store=>exact absurd l zSp
 case nilCheck=>obtain⟨z,j,g⟩:=h;exact⟨g.2.symm,fun _ i=>⟨z,j,g.1,by first|rfl|trivial⟩⟩
 case binOp =>
  split at h
  .rename_i t
   simp only[if_pos t];obtain⟨z,J,R⟩:=h.det
   grind
  .rename_i t
   simp only[if_neg t];obtain⟨z,j,g⟩:=h;exact⟨g.2.symm,fun _ i=>⟨z,j,g.1,by first|rfl|trivial⟩⟩
 case unOp=>obtain⟨z,j,g⟩:=h;exact⟨g.2.symm,fun _ i=>⟨z,j,g.1,by first|rfl|trivial⟩⟩
 case convert=>obtain⟨p,z,j,g⟩:=h;exact⟨g.2.symm,fun _ i=>⟨p,z,j,g.1,by first|rfl|trivial⟩⟩
 case makeInterface=>grind
 case makeSlice=>exact absurd l zSp
 case slice=>obtain⟨p,z,j,g⟩:=h;exact⟨g.2.symm,fun _ i=>⟨p,z,j,g.1,by first|rfl|trivial⟩⟩
 case fieldAddr=>obtain⟨z,j,g⟩:=h;exact⟨g.2.symm,fun _ i=>⟨z,j,g.1,by first|rfl|trivial⟩⟩
 case field=>obtain⟨z,j,g⟩:=h;exact⟨g.2.symm,fun _ i=>⟨z,j,g.1,by first|rfl|trivial⟩⟩
 case indexAddr=>obtain⟨z,j,g⟩:=h;exact⟨g.2.symm,fun _ i=>⟨z,j,g.1,by first|rfl|trivial⟩⟩
 case index=>obtain⟨z,j,g⟩:=h;exact⟨g.2.symm,fun _ i=>⟨z,j,g.1,by first|rfl|trivial⟩⟩
 case extract=>obtain⟨z,j,g⟩:=h;exact⟨g.2.symm,fun _ i=>⟨z,j,g.1,by first|rfl|trivial⟩⟩
 case typeAssert=>obtain⟨z,j,g⟩:=h;exact⟨g.2.symm,fun _ i=>⟨z,j,g.1,by first|rfl|trivial⟩⟩
 case makeMap=>exact absurd l zSp
 case lookup=>obtain⟨z,j,g⟩:=h;grind
 case mapUpdate=>exact absurd l zSp
 case insert=>exact absurd l zSp
 case mapEntry=>exact absurd l zSp
 case entryStore=>exact absurd l zSp
 case range=>exact absurd l zSp
 case next=>exact absurd l zSp
 case entry=>obtain⟨z,j,g⟩:=h;grind
 case panic=>exact absurd h.1 zSp
 case call c =>
  obtain⟨callee,args,I⟩:=c;cases callee with
  |invoke r m=>exact h.elim
  |value f =>
   rcases h with ⟨v,j,g⟩|⟨j,_⟩
   .grind
   grind
  |builtin b =>
   cases b<;>simp only at h l⊢<;>first
    | (obtain⟨z,j,g⟩:=h;grind)
    | (exact absurd l zSp)
theorem Yp{ev}{l:Array qh}(h:∀ x,x∈l->ev x=ev' x):evs ev l.toList=evs ev' l.toList:=
 List.map_congr_left fun x g=>h x (zUs g)
theorem Ue{ev:qh->AV}{l:Array (Nat×qh)}(h:∀ x,x∈(l.toList.map (·.2)).toArray->ev x=ev' x):(l.toList.map fun p=>(p.1,ev p.2))=l.toList.map fun p=>(p.1,ev' p.2):=
 List.map_congr_left fun p g=>by grind
theorem Uf{ev}{o:Option qh}(h:∀ x,x∈o.toArray->ev x=ev' x):o.map ev=o.map ev':=by
 cases o with
 |none=>rfl
 |some x=>simp[h x zSp]
theorem DS.congr{ev v}(h:DS P pl o ev mu v m)(g:∀ x,x∈o.op.operands->ev x=ev' x):DS P pl o ev' mu v m:=by
 unfold DS at *
 cases p:o.op<;>rw[p]at h g<;>simp only[qH,Op.operands]at h g⊢<;>try (exact h.elim)
 case move x=>rw[<-g x zSp];exact h
 case assign x=>rw[<-g x zSp];exact h
 case makeFunc f first j =>
  grind [Yp]
 case pick c x y=>grind
 case alloc=>exact h
 case box t x=>rw[<-g x zSp];exact h
 case build t C=>rw[<-Ue g];exact h
 case buildSlice t n C=>rw[<-Ue g];exact h
 case load t x=>rw[<-g x zSp];exact h
 case store t x y=>grind
 case nilCheck x=>rw[<-g x zSp];exact h
 case binOp op t x y R=>grind
 case unOp op t x=>rw[<-g x zSp];exact h
 case convert s t x=>rw[<-g x zSp];exact h
 case makeInterface t x=>rw[<-g x zSp];exact h
 case makeSlice t x y=>grind
 case slice t x T U mx =>
  grind [Uf]
 case fieldAddr t x f=>rw[<-g x zSp];exact h
 case field t x f=>rw[<-g x zSp];exact h
 case indexAddr t x i=>grind
 case index t x i=>grind
 case extract x i=>rw[<-g x zSp];exact h
 case typeAssert x xt t ok=>rw[<-g x zSp];exact h
 case makeMap=>exact h
 case lookup t m k ok=>grind
 case mapUpdate t m k v=>grind
 case insert t m k v=>grind
 case mapEntry t m k=>grind
 case entryStore t m k v=>grind
 case range t m=>rw[<-g m zSp];exact h
 case next=>exact absurd h.1 zSp
 case entry i=>rw[<-g i zSp];exact h
 case panic x=>exact absurd h.1 zSp
 case call c =>
  obtain⟨callee,args,I⟩:=c;cases callee with
  |invoke r m=>exact h.elim
  |value f =>
   grind [Call.operands,Yp]
  |builtin b =>
   simp only[Call.operands]at g;simp only at h⊢;rw[<-Yp (l:=args) (fun x J=>g x (zP1 J))];exact h
theorem gO(g:MuLe mu mu'){p n cs}(h:ue mu p n=some cs):ue mu' p n=some cs:=by
 unfold ue at *
 split at h
 .exact h
 .split at h
  .rename_i i;rw[g _ _ i];exact h
  grind
 grind
theorem qh7(i:MuLe mu mu'){t p z}(h:Qd P mu t p=some z):Qd P mu' t p=some z:=by
 unfold Qd at *
 split at h
 .rename_i n l o
  cases g:ue mu p n with
  |none=>rw[g]at h;exact absurd h zSp
  |some j=>rw[g]at h;rw[gO i g];exact h
 .cases g:ue mu p 1 with
  |none=>rw[g]at h;exact absurd h zSp
  |some j=>rw[g]at h;rw[gO i g];exact h
 grind
theorem qh8(g:MuLe mu mu'){m es}(h:jW mu m=some es):jW mu' m=some es:=by
 unfold jW at *
 split at h
 .exact h
 .split at h
  .rename_i i;rw[g _ _ i];exact h
  grind
 .exact h
 grind
theorem gP(g:MuLe mu mu'){t m k z ok}(h:jx P mu t m k ok=some z):jx P mu' t m k ok=some z:=by
 grind [jx,qh8,absurd]
theorem qh9(g:MuLe mu mu'){t m k z ok}(h:yL P mu t m k ok=some z):yL P mu' t m k ok=some z:=by
 cases m with
 |ims J =>
  simp only[yL]at h⊢;cases i:mapT P t with
  |none=>rw[i]at h;exact absurd h zSp
  |some q =>
   rw[i]at h;simp only at h⊢;split at h
   .rename_i j
    rw[if_pos j];exact gP g h
   grind
 |_=>exact gP g h
theorem qiA(g:MuLe mu mu'){x z}(h:ZN mu x=some z):ZN mu' x=some z:=by
 unfold ZN at *
 split at h
 .split at h
  .rename_i i;rw[g _ _ i];exact h
  grind
 grind
theorem qiB(g:MuLe mu mu'){t x z}(h:lenA P mu t x=some z):lenA P mu' t x=some z:=by
 unfold lenA at *
 split at h
 .exact h
 .exact h
 .exact h
 .exact h
 .exact h
 .split at h
  .rename_i i j;rw[i,g _ _ j];exact h
  grind
 grind
theorem qiC(g:MuLe mu mu'){b ts xs z}(h:uO P mu b ts xs=some z):uO P mu' b ts xs=some z:=by
 unfold uO at *
 split at h
 .exact qiB g h
 .exact h
 .exact h
 .exact h
 grind
theorem Rd.le(I:MuLe mu mu'){x y}(h:Rd mu x y):Rd mu' x y:=by
 induction h with
 |hf x h=>exact .hf x h
 |sl b sz off len cells j C hl g P h i=>exact .sl b sz off len cells j (I _ _ C) hl g P i
 |ptr b off cells j C g h i=>exact .ptr b off cells j (I _ _ C) g i
 |mp b J R C g hk hv l o=>exact .mp b J R (I _ _ C) g l o
 |md b J R C g hk hv l o=>exact .md b J R (I _ _ C) g l o
 |agg p j g h i=>exact .agg p j g i
 |tup p j g h i=>exact .tup p j g i
 |lst full p j g P h i=>exact .lst full p j g P i
 |fn f a b c d g T h h' l o=>exact .fn f a b c d g T l o
 |ifc t x y h i=>exact .ifc t x y i
 |wk x full j h i=>exact .wk x full j i
 |ims x J U σ τ hp hd h i=>exact .ims x J U σ τ hp hd i
theorem Rds.le(g:MuLe mu mu'):∀{xs ys},Rds mu xs ys->Rds mu' xs ys
 | [],[],_=>trivial
 |x :: xs,y :: ys,⟨h,t⟩=>⟨h.le g,Rds.le g t⟩
 | [],_ :: _,h=>h.elim
 |_ :: _,[],h=>h.elim
theorem JK.le(t:MuLe mu mu'){f args v}(h:JK P mu f args v):JK P mu' f args v:=by
 rcases h with ⟨g,first,j,i,o,p,l⟩|⟨g,first,j,i,o,p,l⟩
 .refine .inl ⟨g,first,j,i,o,p,?_⟩
  rcases l with l|⟨l,C⟩
  .exact .inl l
  .exact .inr ⟨l.le t,C⟩
 .exact .inr ⟨g,first,j,i,o,p,l.le t⟩
theorem DS.le{ev v}(j:reads pl o=true)(l:MuLe mu mu')(h:DS P pl o ev mu v m):DS P pl o ev mu' v mu':=by
 unfold reads at j;rw[qD,Bool.not_eq_true']at j;obtain⟨j,p⟩:=j;unfold DS at *
 unfold memR at j;unfold memW at p;cases t:o.op<;>rw[t]at h j p<;>simp only[qH]at h⊢<;>try grind
 case load=>obtain⟨z,g,i⟩:=h;exact⟨z,qh7 l g,i.1,by first|rfl|trivial⟩
 case lookup=>obtain⟨z,g,i⟩:=h;exact⟨z,qh9 l g,i.1,by first|rfl|trivial⟩
 case entry=>obtain⟨z,g,i⟩:=h;exact⟨z,qiA l g,i.1,by first|rfl|trivial⟩
 case call c =>
  obtain⟨callee,args,C⟩:=c;cases callee with
  |invoke r m=>exact h.elim
  |value f =>
   rcases h with ⟨v,g,i⟩|⟨g,_⟩
   .exact .inl ⟨v,g.le l,i.1,by first|rfl|trivial⟩
   grind
  |builtin b =>
   cases b<;>simp only at h p⊢<;>first
    | (obtain⟨z,g,i⟩:=h;exact⟨z,qiC l g,i.1,by first|rfl|trivial⟩)
    | (exact absurd p zSp)
theorem DS.push{ev v}(j:W7 pl o=true)(h:DS P pl o ev mu v m):MuLe mu m:=by
 unfold DS at *
 unfold W7 at j;cases p:o.op<;>rw[p]at h j<;>simp only[qH]at h<;>try grind
 case alloc=>obtain⟨z,g,i,l,t⟩:=h;rw[<-t];exact .push _ _
 case box =>
  obtain⟨g,i⟩:=h;simp only at j;rw[if_pos j]at i;rw[<-i.2];exact .push _ _
 case makeSlice =>
  obtain⟨z,g,i,l⟩:=h;rw[<-l];unfold JE at g;split at g
  .split at g
   .split at g
    .simp only[qs]at g
     rw[<-g];exact .push _ _
    grind
   grind
  grind
 case makeMap=>obtain⟨C,g,i⟩:=h;rw[<-i];exact .push _ _
end
end Go.Ev
namespace Go.Ev
open Go Go.RowKit
section
variable {o:yj}{st:St}
theorem gQ{pl}(h:reads pl o=true):memW pl o=false:=by
 simp_all[reads,qD]
theorem qiD{pl}(h:reads pl o=true):memR o=true:=by
 unfold reads at h;rw[qD]at h;exact h.1
theorem qiE{pl}(h:memW pl o=true):reads pl o=false:=by
 unfold reads;rw[h];simp
theorem qiF{pl a b}(h:reads pl a=false):soft pl a b=false:=by
 unfold soft;rw[h];simp only[Bool.false_and,Bool.or_false]
 grind [reads,memR,memW,absurd]
theorem qiG{P pl a b}(h:soft pl a b=true){ev ev' mu m v l}(g:DS P pl b ev' mu l m)(i:DS P pl a ev mu v mu):DS P pl a ev m v m:=by
 unfold soft at h;rw[Yg]at h;rcases h with h|h
 .split at h
  .rename_i t mo ko t' o p C I
   have J:=beq_iff_eq.1 h;subst J;unfold DS at *
   rw[C]at i⊢;rw[I]at g;simp only[qH]at i g⊢;obtain⟨z,R,T,_⟩:=i;obtain⟨y,U,_,j⟩:=g;obtain⟨y1,y2⟩:=y;simp only at j;subst j;exact⟨z,qhP U R,T,by first|rfl|trivial⟩
  grind
 .rw [qD]at h
  exact i.le h.1 (g.push h.2)
section
variable (P:qc) (pl:Pol) (ops:Array yj)
def vp(st:St)(o:yj)(g:St):Prop:=
 ∃ b,yN ops st o=some b/\(b=true->∃ v m,DS P pl o st.ev st.mu v m/\g=st.put o.dst v m)/\(b=false->g=st.put o.dst (.sc z6) st.mu)
theorem W8{Q t}:∀ l st,awpS P pl true ops l Q t st ->
  ∃ g:Nat->St,g 0=st/\Q (g l.length)/\∀ i o,l[i]?=some o->vp P pl ops (g i) o (g (i+1)):=by
 intro l;induction l with
 |nil=>intro st h;exact⟨fun _=>st,rfl,h,zSp⟩
 |cons o l I =>
  intro st h;obtain⟨b,C,J,R⟩:=h;have key:∀ j:St,awpS P pl true ops l Q t j->vp P pl ops st o j->∃ g:Nat->St,g 0=st/\Q (g (o :: l).length)/\∀(i:Nat)(x:yj),(o :: l)[i]?=some x->vp P pl ops (g i) x (g (i+1)):=by
   intro j p T;obtain⟨g,e0,U,hs⟩:=I j p;refine⟨fun i=>match i with|0=>st|k+1=>g k,rfl,U,fun i x hx=>?_⟩
   grind
  cases b with
  |true =>
   obtain⟨v,m,hd,hk⟩:=qH.det (J rfl);exact key _ hk ⟨true,C,fun _=>⟨v,m,hd,rfl⟩,fun h=>absurd h zSp⟩
  |false=>exact key _ (R rfl) ⟨false,C,fun h=>absurd h zSp,fun _=>rfl⟩
variable (po:Array yj)
def ug(k:Nat):Option Tmp:=(po[k]?).bind (·.dst)
def wAt(k:Nat):Bool:=(po[k]?).any (memW pl)
def Sst(g:Nat->St)(S:List Nat):Nat->St
 | 0=>g 0
 |k+1=>if k∈S then ⟨fun t=>if ug po k=some t then (g (k+1)).tm t else (Sst g S k).tm t,if wAt pl po k=true then (g (k+1)).mu else (Sst g S k).mu⟩ else Sst g S k
variable {P pl ops po}
theorem jY{d v m t}(h:d≠some t):(st.put d v m).tm t=st.tm t:=by
 cases d with
 |none=>rfl
 |some d =>
  simp only[St.put]
  grind
theorem vp.frame{g}(h:vp P pl ops st o g){t}(i:o.dst≠some t):g.tm t=st.tm t:=by
 obtain⟨b,_,l,j⟩:=h;cases b with
 |true=>grind [jY]
 |false=>rw[j rfl];exact jY i
theorem vp.mem{g}(h:vp P pl ops st o g)(i:memW pl o=false):g.mu=st.mu:=by
 obtain⟨b,_,j,l⟩:=h;cases b with
 |true=>obtain⟨v,m,p,rfl⟩:=j rfl;exact(p.mem i).1
 |false=>rw[l rfl];rfl
variable {stf:Nat->St}
theorem qiH(j:∀ i o,po[i]?=some o->vp P pl ops (stf i) o (stf (i+1))){k}(l:k<po.size){t}(h:ug po k≠some t):(stf (k+1)).tm t=(stf k).tm t:=by
 have g:po[k]?=some po[k]:=zP1 l;exact(j k _ g).frame (by unfold ug at h;rw[g]at h;exact h)
theorem gR(j:∀ i o,po[i]?=some o->vp P pl ops (stf i) o (stf (i+1))){k}(l:k<po.size)(h:wAt pl po k=false):(stf (k+1)).mu=(stf k).mu:=by
 have g:po[k]?=some po[k]:=zP1 l;exact(j k _ g).mem (by unfold wAt at h;rw[g]at h;exact h)
theorem W9(l:∀(i) (o),po[i]?=some o->vp P pl ops (stf i) o (stf (i+1)))(S t j)(C:∀ k,k<j->ug po k=some t->k∈S)(I:∀ k,j<=k->k<po.size->ug po k=some t->k ∉ S) :
  ∀ m,m<=po.size->(Sst pl po stf S m).tm t=(stf (min m j)).tm t:=by
 intro m;induction m with
 |zero=>intro _;simp[Sst]
 |succ m g =>
  intro J;have g:=g zOm;simp only[Sst];by_cases p:ug po m=some t
  .grind
  .have e:(if m∈S then (⟨fun t=>if ug po m=some t then (stf (m+1)).tm t else (Sst pl po stf S m).tm t,if wAt pl po m=true then (stf (m+1)).mu else (Sst pl po stf S m).mu⟩:St) else Sst pl po stf S m).tm t=(Sst pl po stf S m).tm t:=by
    grind
   rw[e,g];by_cases R:m<j
   .rw [Nat.min_eq_left zOm,Nat.min_eq_left zOm,qiH l zOm p]
   grind
theorem Ug(l:∀(i) (o),po[i]?=some o->vp P pl ops (stf i) o (stf (i+1)))(S j)(C:∀ k,k<j->wAt pl po k=true->k∈S)(I:∀ k,j<=k->k<po.size->wAt pl po k=true->k ∉ S) :
  ∀ m,m<=po.size->(Sst pl po stf S m).mu=(stf (min m j)).mu:=by
 intro m;induction m with
 |zero=>intro _;simp[Sst]
 |succ m g =>
  intro J;have g:=g zOm;simp only[Sst];by_cases p:wAt pl po m=true
  .grind
  .have e:(if m∈S then (⟨fun t=>if ug po m=some t then (stf (m+1)).tm t else (Sst pl po stf S m).tm t,if wAt pl po m=true then (stf (m+1)).mu else (Sst pl po stf S m).mu⟩:St) else Sst pl po stf S m).mu=(Sst pl po stf S m).mu:=by
    grind
   rw[e,g];by_cases R:m<j
   .rw [Nat.min_eq_left zOm,Nat.min_eq_left zOm,gR l zOm (zUs p)]
   grind
theorem qiI(S t j)(g:ug po j≠some t):∀ m,(Sst pl po stf (S++[j]) m).tm t=(Sst pl po stf S m).tm t:=by
 intro m;induction m with
 |zero=>rfl
 |succ m i =>
  simp only[Sst];by_cases l:m∈S
  .grind
  grind
theorem qiJ(S j)(g:wAt pl po j=false):∀ m,(Sst pl po stf (S++[j]) m).mu=(Sst pl po stf S m).mu:=by
 intro m;induction m with
 |zero=>rfl
 |succ m i =>
  simp only[Sst];by_cases l:m∈S
  .grind
  grind
def OrdC(pl:Pol)(ops po:Array yj)(L:List Nat):Prop:=∀(i k:Nat) x y,i<k->po[i]?=some x->po[k]?=some y->yW pl ops x y=true->Bef L i k
theorem Xa(hs:∀(i) (o),po[i]?=some o->vp P pl ops (stf i) o (stf (i+1))){ro G0 al w0 n}(s0:Sim G0 al w0.heap)(b0)(b1:∀ k,k<po.size->ops[b0 k]?=po[k]?)(b2:(po.toList.all fun o=>dOk n o.dst)=true){QQ}
    (hQ:∀ a w G,Rel ro G0 al w0 n G (stf po.size) a w->QQ .normal a w) :
    ∀ post pre a w G,OrdC pl ops po (pre++post)->(pre++post).length=po.size->(∀ k,k∈pre++post->k<po.size)->(pre++post).Nodup ->
      Rel ro G0 al w0 n G (Sst pl po stf pre po.size) a w->wpOpsIn (WF ro) 0 P ops QQ (post.map b0) a w:=by
  intro post;induction post with
  |nil =>
    intro pre a w G ht a7 a9 aa r;simp only[ye]at ht a7 a9 aa;simp only[List.map_nil,wpOpsIn];refine hQ a w G ?_;have ai:∀ i,i<po.size->i∈pre:=by
      intro i hi;refine uL fun h=>?_
      have h1:(i :: pre).length<=(qu po.size).length:=jl (ve.2 ⟨h,aa⟩) (fun k hk=>by
        grind)
      simp at h1;omega
    have e:Sst pl po stf pre po.size=stf po.size:=by
      have e1:(Sst pl po stf pre po.size).tm=(stf po.size).tm:=by
        funext t;rw[W9 hs pre t po.size (fun k hk _=>ai k hk) (fun k h1 h2 _=>absurd h2 zOm) po.size (qn _),Nat.min_self]
      have e2:(Sst pl po stf pre po.size).mu=(stf po.size).mu:=by
        rw[Ug hs pre po.size (fun k hk _=>ai k hk) (fun k h1 h2 _=>absurd h2 zOm) po.size (qn _),Nat.min_self]
      cases hq:Sst pl po stf pre po.size;simp_all
    rw[<-e];exact r
  |cons j post ih =>
    intro pre a w G ht a7 a9 aa r;have hj:j<po.size:=a9 j zSp;have ag:j ∉ pre:=fun h=>by
      grind
    have ho:po[j]?=some po[j]:=zP1 hj;generalize cl:po[j]=o at ho;have b3:dOk n o.dst=true:=qY.1 b2 o (by grind)
    have C:∀(k:Nat)(x:yj),k<j->po[k]?=some x->yW pl ops x o=true->k∈pre:=fun k x hk l hc=>ht k j x o hk l ho hc pre post rfl
    have ab:∀(i k:Nat)(x y:yj),i<k->po[i]?=some x->po[k]?=some y->yW pl ops x y=true->k∈pre->i∈pre:=by
      intro i k x y bi l hy hc hk;obtain⟨p,q,e⟩:=List.append_of_mem hk;have:=ht i k x y bi l hy hc p (q++j :: post) (by rw[e];simp);rw[e];simp[this]
    have after:∀(k:Nat)(x:yj),j<k->po[k]?=some x->yW pl ops o x=true->k ∉ pre:=fun k x hk l hc bj=>ag (ab j k o x hk ho l hc bj)
    have a0:∀ k t,ug po k=some t->∃ x,po[k]?=some x/\x.dst=some t:=by
      intro k t h;unfold ug at h;cases l:po[k]? with
      |none=>rw[l]at h;exact absurd h zSp
      |some x=>rw[l]at h;exact⟨x,rfl,h⟩
    have a1:∀ k,wAt pl po k=true->∃ x,po[k]?=some x/\memW pl x=true:=by
      intro k h;unfold wAt at h;cases l:po[k]? with
      |none=>rw[l]at h;exact absurd h zSp
      |some x=>rw[l]at h;exact⟨x,rfl,h⟩
    have cm:∀ k (x:yj),po[k]?=some x->j<=k->k≠j->j<k:=fun k x _ h1 h2=>zOm
    have aj:∀ t,t∈Qj ops o->(Sst pl po stf pre po.size).tm t=(stf j).tm t:=by
      intro t b4;rw[W9 hs pre t j ?_ ?_ po.size (qn _),Nat.min_eq_right zOm]
      · intro k hk hd
        obtain⟨x,l,a3⟩:=a0 k t hd;exact C k x hk l (by simp[yW,a3,b4])
      · intro k an ao hd
        by_cases a4:k=j
        · subst a4;exact ag
        · obtain⟨x,l,a3⟩:=a0 k t hd
          exact after k x zOm l (by simp[yW,a3,b4])
    have ak:(memW pl o||memR o)=true->reads pl o=false->(Sst pl po stf pre po.size).mu=(stf j).mu:=by
      intro hm bk;rw[Ug hs pre j ?_ ?_ po.size (qn _),Nat.min_eq_right zOm]
      · intro k hk hd
        obtain⟨x,l,I⟩:=a1 k hd;refine C k x hk l ?_;simp only[yW,I,hm,Bool.and_self,Bool.true_or]
      · intro k an ao hd
        by_cases a4:k=j
        · subst a4;exact ag
        · obtain⟨x,l,I⟩:=a1 k hd
          refine after k x zOm l ?_;have bl:=qiF (b:=x) bk;simp only[yW,I,bl,Bool.true_or,Bool.and_true,Bool.not_false];simp only[Yg]at hm⊢;rcases hm with hm|hm
          · exact .inl (.inl (.inl hm))
          · exact .inl (.inl (.inr hm))
    have ah:reads pl o=true->∀(ev:qh->AV) v m,DS P pl o ev (stf j).mu v m->DS P pl o ev (Sst pl po stf pre po.size).mu v (Sst pl po stf pre po.size).mu:=by
      intro a5 ev v m aq;have b5:memW pl o=false:=gQ a5;have b6:memR o=true:=qiD a5;have bef:∀ k,k<j->wAt pl po k=true->k∈pre:=by
        intro k hk hd;obtain⟨x,l,I⟩:=a1 k hd;refine C k x hk l ?_;simp only[yW,I,b6,Bool.or_true,Bool.and_self,Bool.true_or]
      obtain⟨J,bm,cn,b7,bn⟩:∃ J,j<=J/\J<=po.size/\(∀ k,k<J->wAt pl po k=true->k∈pre)/\(∀ k,J<=k->k<po.size->wAt pl po k=true->k ∉ pre):=by
        have down:∀ d,d<=po.size-j->(∀ k,po.size-d<=k->k<po.size->wAt pl po k=true->k ∉ pre) \/
            ∃ J,j<=J/\J<=po.size/\(∀ k,k<J->wAt pl po k=true->k∈pre)/\(∀ k,J<=k->k<po.size->wAt pl po k=true->k ∉ pre):=by
          intro d;induction d with
          |zero=>intro _;exact .inl (fun k h1 h2 _=>absurd h2 zOm)
          |succ d bo =>
            intro hd;rcases bo zOm with h|h
            · by_cases hw:wAt pl po (po.size-(d+1))=true/\(po.size-(d+1))∈pre
              · obtain⟨bq,b8⟩:=hw
                refine .inr ⟨po.size-d,zOm,zOm,fun k hk br=>?_,fun k h1 h2 h3=>h k h1 h2 h3⟩;by_cases ar:k=po.size-(d+1)
                · rw[ar];exact b8
                · obtain⟨x,l,I⟩:=a1 k br
                  obtain⟨y,hy,bs⟩:=a1 _ bq;exact ab k _ x y zOm l hy (by simp only[yW,I,bs,Bool.true_or,Bool.and_self]) b8
              · refine .inl (fun k h1 h2 h3 h4=>?_)
                by_cases ar:k=po.size-(d+1)
                · rw[ar]at h3 h4;exact hw ⟨h3,h4⟩
                · exact h k zOm h2 h3 h4
            · exact .inr h
        rcases down (po.size-j) (qn _) with h|h
        · exact⟨j,qn _,zOm,bef,fun k h1 h2 h3=>h k zOm h2 h3⟩
        · exact h
      have bt:(Sst pl po stf pre po.size).mu=(stf J).mu:=by
        rw[Ug hs pre J b7 bn po.size (qn _),Nat.min_eq_right zOm]
      have chain:∀ T,j<=T->T<=J->∀ v m,DS P pl o ev (stf j).mu v m->DS P pl o ev (stf T).mu v (stf T).mu:=by
        intro T;induction T with
        | zero =>
                  intro h1 _ v m h;have:j=0:=zOm;subst this;have:=(h.mem b5).1;rw[this]at h;exact h
        |succ T bu =>
          intro h1 h2 v m h;by_cases he:j=T+1
          · rw[<-he];have:=(h.mem b5).1;rw[this]at h;exact h
          · have a6:=bu zOm zOm v m h
            by_cases hw:wAt pl po T=true
            · have au:=b7 T zOm hw
              obtain⟨x,l,I⟩:=a1 T hw;have cp:j≠T:=fun e=>by rw[<-e]at au;exact ag au
              have av:soft pl o x=true:=by
                refine Decidable.byContradiction fun b9=>after T x zOm l ?_ au
                simp only[yW,b6,I,Bool.not_eq_true]at b9⊢;simp[b9]
              obtain⟨b',cq,bb,bc⟩:=hs T x l;cases b' with
              |true =>
                obtain⟨v',m2,bv,be⟩:=bb rfl;rw[be];have:((stf T).put x.dst v' m2).mu=m2:=by cases x.dst<;>rfl
                rw[this];exact qiG av bv a6
              | false =>
                         rw[bc rfl];have:((stf T).put x.dst (.sc z6) (stf T).mu).mu=(stf T).mu:=by cases x.dst<;>rfl
                         rw[this];exact a6
            · have:=gR hs (k:=T) zOm (zUs hw)
              rw[this];exact a6
      rw[bt];exact chain J bm (qn _) v m aq
    have aw:∀ t,o.dst=some t->(Sst pl po stf (pre++[j]) po.size).tm t=(stf (j+1)).tm t:=by
      intro t a2;rw[W9 hs (pre++[j]) t (j+1) ?_ ?_ po.size (qn _),Nat.min_eq_right zOm]
      · intro k hk hd
        by_cases a4:k=j
        · subst a4;simp
        · obtain⟨x,l,a3⟩:=a0 k t hd
          exact qP.2 (.inl (C k x zOm l (by simp[yW,a3,a2])))
      · intro k an ao hd ax
        obtain⟨x,l,a3⟩:=a0 k t hd;rcases qP.1 ax with h|h
        · exact after k x zOm l (by simp[yW,a3,a2]) h
        · simp at h;omega
    have ay:memW pl o=true->(Sst pl po stf (pre++[j]) po.size).mu=(stf (j+1)).mu:=by
      intro hm;rw[Ug hs (pre++[j]) (j+1) ?_ ?_ po.size (qn _),Nat.min_eq_right zOm]
      · intro k hk hd
        by_cases a4:k=j
        · subst a4;simp
        · obtain⟨x,l,I⟩:=a1 k hd
          exact qP.2 (.inl (C k x zOm l (by simp[yW,I,hm])))
      · intro k an ao hd ax
        obtain⟨x,l,I⟩:=a1 k hd;rcases qP.1 ax with h|h
        · exact after k x zOm l (by simp[yW,I,hm]) h
        · simp at h;omega
    have bw:ug po j=o.dst:=by unfold ug;rw[ho];rfl
    have ca:wAt pl po j=memW pl o:=by unfold wAt;rw[ho];rfl
    have ad:∀(v:AV)(m:Mu),(∀ t,o.dst=some t->v=(stf (j+1)).tm t)->(memW pl o=true->m=(stf (j+1)).mu)->(memW pl o=false->m=(Sst pl po stf pre po.size).mu) ->
        (Sst pl po stf pre po.size).put o.dst v m=Sst pl po stf (pre++[j]) po.size:=by
      intro v m h1 h2 h3;have e1:((Sst pl po stf pre po.size).put o.dst v m).tm=(Sst pl po stf (pre++[j]) po.size).tm:=by
        funext t;by_cases a2:o.dst=some t
        · rw[aw t a2,<-h1 t a2,a2];simp[St.put]
        · rw[jY a2,qiI pre t j (by rw[bw];exact a2)]
      have e2:((Sst pl po stf pre po.size).put o.dst v m).mu=(Sst pl po stf (pre++[j]) po.size).mu:=by
        cases hm:memW pl o with
        |true=>rw[ay hm];exact h2 hm
        |false=>rw[qiJ pre j (by rw[ca];exact hm)];exact h3 hm
      cases hq:(Sst pl po stf pre po.size).put o.dst v m;cases cb:Sst pl po stf (pre++[j]) po.size;rw[hq,cb]at e1 e2;simp only at e1 e2;rw[e1,e2]
    obtain⟨b,hb,cc,cd⟩:=hs j o ho;have cf:yN ops (Sst pl po stf pre po.size) o=some b:=by
      rw[<-hb];unfold yN;cases hg:o.guard with
      |none=>rfl
      |some q =>
        obtain⟨k,ck⟩:=q;simp only;cases hd:(ops[k]?).bind (·.dst) with
        |none=>rfl
        |some d =>
          simp only;rw[aj d (by simp[Qj,hg,hd])]
    have az:=Ub r cf;have ae:∀{U:St}{v:AV}{m:Mu}{t:Tmp},o.dst=some t->(U.put o.dst v m).tm t=v:=by
      intro U v m t h;rw[h];simp[St.put]
    simp only[List.map_cons,wpOpsIn,b1 j hj,ho,az];cases b with
    |false =>
      rw[if_neg zSp];have af:=cd rfl;have e:=ad (.sc z6) (Sst pl po stf pre po.size).mu (fun t h=>by rw[af];exact(ae h).symm) (fun h=>by rw[af,ak (zP1 h) (qiE h)];rfl) (fun _=>rfl);refine⟨fun _ _=>trivial,ih (pre++[j]) _ _ G (zUs ht) (zUs a7) (zUs a9) (zUs aa) ?_⟩;rw[<-e];exact r.put s0 (Stp.refl r.stp.sim) (.sc _ rfl) b3
    |true =>
      rw[if_pos rfl];obtain⟨v,m,aq,af⟩:=cc rfl;have bg:∀ x,x∈o.op.operands->(stf j).ev x=(Sst pl po stf pre po.size).ev x:=by
        intro x l;cases x with
        |tmp t =>
          refine(aj t ?_).symm;simp only[Qj,W6,qP,List.mem_filterMap];exact .inl ⟨.tmp t,zUs l,rfl⟩
        |const v=>rfl
        |global g=>rfl
        |func f=>rfl
      have a8:=aq.congr bg;have:∃ T,DS P pl o (Sst pl po stf pre po.size).ev (Sst pl po stf pre po.size).mu v T/\(memW pl o=true->T=m)/\(memW pl o=false->T=(Sst pl po stf pre po.size).mu):=by
        by_cases a5:reads pl o=true
        · exact⟨_,ah a5 _ _ _ a8,fun h=>by rw[gQ a5]at h;exact absurd h zSp,fun _=>rfl⟩
        simp only[Bool.not_eq_true]at a5;by_cases hm:(memW pl o||memR o)=true
        · rw[ak hm a5]
          refine⟨m,a8,fun _=>rfl,fun h=>(a8.mem h).1⟩
        · simp only[Yg,not_or,Bool.not_eq_true]at hm
          exact⟨_,(a8.mem hm.1).2 hm.2 _,fun h=>by rw[hm.1]at h;exact absurd h zSp,fun _=>rfl⟩
      obtain⟨T,cg,ch,cj⟩:=this;have e:=ad v T (fun t h=>by rw[af];exact(ae h).symm) (fun h=>by rw[ch h,af];rfl) cj;refine Ua r.stp.sim r.ev cg ?_ ?_
      · rintro v' R G' w' u ⟨rfl,rfl⟩ bh hv
        refine ih (pre++[j]) _ _ G' (zUs ht) (zUs a7) (zUs a9) (zUs aa) ?_;rw[<-e];exact r.put s0 bh hv b3
      · intro _ _ _ _ _ h;exact h.elim
end
end
section
variable {ops:Array yj}{pl:Pol}{P:qc}
theorem Xb{i g}:∀ m,Sst pl i g [] m=g 0:=by
 intro m;induction m with
 |zero=>rfl
 |succ m j=>simp_all[Sst]
theorem gS{ro C g I n}(U:Sim C g I.heap)(j:(ops.toList.all fun o=>dOk n o.dst)=true)
  {Q} {Qp} {QQ} (hQ:∀ st a w G,Q st->Rel ro C g I n G st a w->QQ .normal a w) {st} {a} {w} {G} (r:Rel ro C g I n G st a w)
  (L) (l:L.length=ops.size) (J:∀ k,k∈L->k<ops.size) (R:L.Nodup) (p:OrdC pl ops ops L)
  (h:awpS P pl true ops ops.toList Q Qp st):wpOpsIn (WF ro) 0 P ops QQ L a w:=by
 obtain⟨t,e0,hq,hs⟩:=W8 P pl ops ops.toList st h;have T:∀(i:Nat)(o:yj),ops[i]?=some o->vp P pl ops (t i) o (t (i+1)):=fun i o ho=>hs i o (zUs ho)
 have:=Xa T U (fun i=>i) (fun k _=>rfl) j (fun a w G r=>hQ _ a w G (zUs hq) r) L [] a w G p l J R (by rw[Xb,e0];exact r);simpa using this
theorem qiK{F n}{o:yj}{a K C Q j g}(i:∀ a w,K a w->C a w)(U:∀ I a w,Q (.panic I) a w->j (.panic I) a w)(ho:LetsOut Q->LetsOut j)
  (h:o.uponIn F n P a K Q g):o.uponIn F n P a C j g:=by
 cases g with
 |halt p w=>cases p<;>first|exact h.elim|exact U _ _ _ h
 |ok nx w =>
  cases nx
  case value v=>exact i _ _ h
  case skip=>exact i _ _ h
  case defer d=>exact i _ _ h
  case enter f args =>
   refine⟨h.1,h.2.1,fun cs t=>?_⟩;obtain⟨e,w',fr,hR,J⟩:=h.2.2 cs t
   grind
  case row row args=>exact⟨h.1,h.2.mono fun _ _ t=>i _ _ t⟩
  case round l f R a0 T =>
   refine⟨h.1,RoundIn.mono h.2 fun e w' hR=>?_⟩
   grind
  all_goals exact h.elim
theorem Uh{F n QQ}:∀ j g a w,wpOpsIn F n P ops (Exit.then (wpOpsIn F n P ops QQ g) QQ) j a w->wpOpsIn F n P ops QQ (j++g) a w
 | [],g,a,w,h=>h
 |i :: j,g,a,w,h=>by
  simp only[wpOpsIn,yq]at h⊢;cases t:ops[i]? with
  |none =>
   rw[t]at h;exact Uh j g a w h
  |some o =>
   rw[t]at h;simp only at h⊢;split
   .rename_i l
    rw[if_pos l]at h;exact⟨h.1,qiK (fun a w C=>Uh j g a w C) (fun I a w p=>p) (fun⟨a,w,p⟩=>⟨a,w,p⟩) h.2⟩
   .rename_i l
    rw[if_neg l]at h;exact⟨h.1,Uh j g _ w h.2⟩
theorem gT(n):∀ d L,L.length=n+d->(∀ k,k∈L->k<n+d)->L.Nodup->(∀ j,n<=j->j<n+d->∀ i,i<j->Bef L i j)->∃ I,L=I++List.range' n d/\I.length=n
 | 0,L,o,_,_,_=>⟨L,zSp,zUs o⟩
 |d+1,L,o,U,t,T=>by
  have g:∀ i,i<n+(d+1)->i∈L:=by
   intro i C;refine uL fun h=>?_
   have o:(i :: L).length<=(qu (n+(d+1))).length:=jl (ve.2 ⟨h,t⟩) (fun k l=>by
    grind)
   simp at o;omega
  obtain⟨p,q,e⟩:=List.append_of_mem (g (n+d) zOm);have hp:∀ i,i<n+d->i∈p:=fun i C=>T (n+d) zOm zOm i C p q e
  have a0:n+d<=p.length:=by
   have:(qu (n+d)).length<=p.length:=jl List.nodup_range (fun k l=>hp k (zUs l));simpa using this
  have hq:q=[]:=by
   have:=congrArg List.length e;simp at this;exact uM zOm
  subst hq;rw[e]at t;have J:p.Nodup:=(ZE.1 t).1;have P:n+d ∉ p:=fun h=>(ZE.1 t).2.2 _ h _ zSp rfl
  obtain⟨I,a1,a2⟩:=gT n d p (by grind) (fun k l=>by
   have:=U k (by rw[e];simp[l]);have a3:k≠n+d:=fun h=>P (h ▸ l)
   omega) J (fun j R a4 i C pre post e2=>by
   refine T j R zOm i C pre (post++[n+d]) ?_;rw[e,e2];simp)
  grind [List.range'_concat]
def Xc(pl:Pol)(ops:Array yj)(n:Nat):Bool:=
 jB ops&&decide (n<=ops.size)&&(let g:=uP ops.toList [];(qu ops.size).all fun j=>(qu j).all fun i=>(if n<=j then (g.getD j 0).testBit i else
  match ops[i]?,ops[j]? with|some a,some b=>!yW pl ops a b||(g.getD j 0).testBit i|_,_=>true))
def vq:Nat->yj->List yj->List yj
 |d+1,x,y :: l=>y :: vq d x l
 |_,x,l=>x :: l
def jM:Nat->Nat->List yj->List yj
 | 0,d,x :: l=>vq d x l
 |n+1,d,x :: l=>x :: jM n d l
 |_,_,[]=>[]
def mvI(a b k:Nat):Nat:=if k<a then k else if k<b then k+1 else if k=b then a else k
def mvP(a b i:Nat):Nat:=if i<a then i else if i=a then b else if i<=b then i-1 else i
theorem qiL{a b}(h:a<=b)(k):mvI a b (mvP a b k)=k:=by
 unfold mvP;split
 .unfold mvI;rw[if_pos ‹_›]
 .split
  .unfold mvI;rw[zIn,zIn,if_pos rfl];omega
  .split
   .unfold mvI;rw[zIn,if_pos zOm];omega
   .unfold mvI;rw[zIn,zIn,zIn]
theorem qiM{a b}(h:a<=b)(k):mvP a b (mvI a b k)=k:=by
 unfold mvI;split
 .unfold mvP;rw[if_pos ‹_›]
 .split
  .unfold mvP;rw[zIn,zIn,if_pos zOm];omega
  .split
   .unfold mvP;rw[zIn,if_pos rfl];omega
   .unfold mvP;rw[zIn,zIn,zIn]
theorem gU:∀ d x l,(vq d x l).length=l.length+1
 | 0,x,l=>by simp[vq]
 |d+1,x,[]=>by simp[vq]
 |d+1,x,y :: l=>by simp[vq,gU d x l]
theorem gV:∀ d x l k,d<=l.length->(vq d x l)[k]?=if k<d then l[k]? else if k=d then some x else l[k-1]?
 | 0,x,l,k,h=>by
  cases k with
  |zero=>simp[vq]
  |succ k=>simp[vq]
 |d+1,x,[],k,h=>by simp at h
 |d+1,x,y :: l,k,h=>by
  cases k with
  |zero=>simp[vq]
  |succ k =>
   simp only[vq,vW];rw[gV d x l k (zUs h)];by_cases g:k<d
   .simp [g]
   .by_cases i:k=d
    .simp [i]
    .obtain ⟨m,rfl⟩:∃ m,k=m+1:=⟨k-1,zOm⟩
     simp[g,i]
theorem Xd:∀ a d l,(jM a d l).length=l.length
 | 0,d,x :: l=>by simp[jM,gU]
 |n+1,d,x :: l=>by simp[jM,Xd n d l]
 | 0,d,[]=>rfl
 |n+1,d,[]=>rfl
theorem gW:∀ a d l k,a+d<l.length->(jM a d l)[k]?=l[mvI a (a+d) k]?
 | 0,d,[],k,h=>by simp at h
 |n+1,d,[],k,h=>by simp at h
 | 0,d,x :: l,k,h=>by
  simp only[jM];rw[gV d x l k (by simp at h;omega)];unfold mvI;by_cases g:k<d
  .simp [g]
  .by_cases i:k=d
   .simp [i]
   .obtain ⟨m,rfl⟩:∃ m,k=m+1:=⟨k-1,zOm⟩
    simp[g,i]
 |n+1,d,x :: l,k,h=>by
  cases k with
  |zero=>simp[jM,mvI]
  |succ k =>
   simp only[jM,vW];rw[gW n d l k (by simp at h;omega)];have:mvI (n+1) (n+1+d) (k+1)=mvI n (n+d) k+1:=by
    unfold mvI;rw[show n+1+d=n+d+1 by omega];simp only[Nat.add_lt_add_iff_right,Nat.add_right_cancel_iff];split
    .rfl
    .split
     .rfl
     .split<;>rfl
   rw[this,vW]
def gX(P:qc)(pl:Pol)(ops:Array yj)(Q:St->Prop)(g:AV->St->Prop)(st:St):Prop:=
 (JL pl ops=true/\awpS P pl true ops ops.toList Q g st) \/
 (∃ n,Xc pl ops n=true/\awpS P pl true ops (ops.toList.take n) (fun st=>awpS P pl false ops (ops.toList.drop n) Q g st) g st) \/
 (∃ a d,Ud pl ops a (a+d)=true/\0<d/\a+d<ops.toList.length/\awpS P pl true ops ops.toList Q g st/\awpS P pl true ops (jM a d ops.toList) Q g st)
theorem qiN{ro G0 a6 w0 n}(s0:Sim G0 a6 w0.heap)(J:(ops.toList.all fun o=>dOk n o.dst)=true)
  {Q} {Qp} {QQ} (hQ:∀ st a w G,Q st->Rel ro G0 a6 w0 n G st a w->QQ .normal a w)
  (ah:∀ v st a w G u,Qp v st->Rel ro G0 a6 w0 n G st a w->VRel G w.heap v u->QQ (.panic [{ v:=u,recovered:=false }]) a w) {st} {a} {w} {G} (r:Rel ro G0 a6 w0 n G st a w)
  (h:gX P pl ops Q Qp st) (C) (t):wpOpsIn (WF ro) 0 P ops QQ (Region.schedule C ops t) a w:=by
 have a4:∀(l:jB ops=true),Topo ops (Region.schedule C ops t)/\(Region.schedule C ops t).length=ops.size/\(∀ k,k∈Region.schedule C ops t->k<ops.size)/\(Region.schedule C ops t).Nodup:=by
  intro l;obtain⟨h1,h2⟩:=gG l C t;obtain⟨h3,h4⟩:=s8 l _ _ rfl h1;exact⟨h1,h2,fun k I=>(h3 k I).1,h4⟩
 rcases h with ⟨U,h⟩|⟨m,U,hA⟩|⟨g,d,U,hd,a7,hA,hB⟩
 .obtain ⟨l,T⟩:=qh5 U
  obtain⟨h1,h2,h3,h4⟩:=a4 l;exact gS s0 J hQ r _ h2 h3 h4 (fun i k x y a2 hx hy hc=>h1.bef l (T i k x y a2 hx hy hc)) h
 .unfold Xc at U
  rw[qD,qD,decide_eq_true_eq]at U;obtain⟨⟨l,ax⟩,T⟩:=U;obtain⟨h1,h2,h3,h4⟩:=a4 l;generalize Region.schedule C ops t=L at *
  simp only[qY,zW]at T;have ai:∀ j,m<=j->j<m+(ops.size-m)->∀ i,i<j->Bef L i j:=by
   intro j aj ay i hi;have:=T j zOm i hi;rw[if_pos aj]at this;exact h1.bef l this
  obtain⟨L1,hL,ak⟩:=gT m (ops.size-m) L zOm (fun k I=>zW1 (h3 k I)) h4 ai;have ab:L1.Nodup:=by rw[hL]at h4;exact(ZE.1 h4).1
  have ad:∀ k,k∈L1->k<m:=by
   intro k I;have az:=h3 k (by rw[hL];simp[I]);refine uL fun b0=>?_
   rw[hL]at h4;exact(ZE.1 h4).2.2 k I k (by simp[List.mem_range'];exact⟨k-m,zOm,zOm⟩) rfl
  rw[hL];refine Uh L1 _ a w ?_;obtain⟨a3,e0,hq,hs⟩:=W8 P pl ops (ops.toList.take m) st hA;have a1:(ops.toList.take m).toArray.size=m:=zSo;have R:∀ k,k<m->(ops.toList.take m).toArray[k]?=ops[k]?:=by
   intro k I;simp[I]
  have aa:∀(i:Nat)(o:yj),(ops.toList.take m).toArray[i]?=some o->vp P pl ops (a3 i) o (a3 (i+1)):=fun i o ho=>hs i o (zUs ho)
  have key:=Xa (QQ:=Exit.then (wpOpsIn (WF ro) 0 P ops QQ (List.range' m (ops.size-m))) QQ) aa s0 (fun i=>i) (fun k I=>(R k zOm).symm) ?_ (fun a w G r=>?_) L1 [] a w G ?_ (by simpa[a1] using ak) (fun k I=>by rw[a1];exact ad k (zUs I)) (zUs ab) (by rw[Xb,e0];exact r)
  .simpa using key
  .rw [qY]at J⊢
   intro o ho;exact J o (List.mem_of_mem_take (zUs ho))
  .have al:awpS P pl false ops (ops.toList.drop m) Q Qp (a3 (ops.toList.take m).toArray.size):=by simpa using hq
   have ae:=Uc s0 hQ ah (ops.toList.drop m) _ a w G r (by
    rw[qY]at J⊢;intro o ho;exact J o (List.mem_of_mem_drop ho)) al
   have e:wpOpsIn (WF ro) 0 P ops QQ (List.range' m (ops.size-m))=wpListIn (WF ro) 0 P ops QQ (ops.toList.drop m):=by
    have:=wpOpsIn_eq_wpListIn (F:=WF ro) (n:=0) (P:=P) (ops:=ops) (Q:=QQ) (ops.toList.drop m) m (fun j=>zSp);simpa using this
   show wpOpsIn (WF ro) 0 P ops QQ (List.range' m (ops.size-m)) a w;rw[e];exact ae
  .simp only[y8]
   intro i k x y a2 hx hy hc pre post e;have I:k<m:=by have:=(yI.1 hy).1;omega
   rw[R i zOm]at hx;rw[R k I]at hy;have a5:=T k zOm i a2;rw[zIn,hx,hy]at a5;simp only[hc,Bool.not_true,Bool.false_or]at a5;exact h1.bef l a5 pre (post++List.range' m (ops.size-m)) (by rw[hL,e];simp)
 .obtain ⟨l,T,af⟩:=qh6 U
  obtain⟨h1,h2,h3,h4⟩:=a4 l;generalize Region.schedule C ops t=L at *
  have a8:∀ i,i<ops.size->i∈L:=by
   intro i hi;refine uL fun h=>?_
   have h1:(i :: L).length<=(qu ops.size).length:=jl (ve.2 ⟨h,h4⟩) (fun k I=>by
    rcases qz.1 I with rfl|I
    .simpa using hi
    .simpa using (h3 k I))
   simp at h1;omega
  have ag:g+d<ops.size:=zUs a7;rcases s6 (a8 g zOm) (a8 (g+d) ag) zOm with hb|hb
  .refine gS s0 J hQ r _ h2 h3 h4 (fun i k x y a2 hx hy hc=>?_) hA
   by_cases he:i=g/\k=g+d
   .rw [he.1,he.2];exact hb
   .exact h1.bef l (T i k x y a2 he hx hy hc)
  .obtain ⟨a3,e0,hq,hs⟩:=W8 P pl ops (jM g d ops.toList) st hB
   have R:∀ k:Nat,(jM g d ops.toList).toArray[k]?=ops[mvI g (g+d) k]?:=by
    intro k;have:=gW g d ops.toList k a7;simpa using this
   have a1:(jM g d ops.toList).toArray.size=ops.size:=by simp[Xd]
   have aa:∀(i:Nat)(o:yj),(jM g d ops.toList).toArray[i]?=some o->vp P pl ops (a3 i) o (a3 (i+1)):=fun i o ho=>hs i o (zUs ho)
   have e1:∀ k,mvI g (g+d) (mvP g (g+d) k)=k:=qiL zOm;have e2:∀ k,mvP g (g+d) (mvI g (g+d) k)=k:=qiM zOm;have an:∀ k,k<ops.size->mvP g (g+d) k<ops.size:=by
    intro k I;unfold mvP;split
    .exact I
    .split
     .exact ag
     .split<;>omega
   have key:=Xa (QQ:=QQ) aa s0 (mvI g (g+d)) (fun k _=>(R k).symm) ?_ (fun a w G r=>hQ _ a w G (zUs hq) r) (L.map (mvP g (g+d))) [] a w G ?_ (by simpa[Xd] using h2) ?_ ?_ (by rw[Xb,e0];exact r)
   .simpa [List.map_map,Function.comp_def,e1] using key
   .rw [qY]at J⊢
    intro o ho;obtain⟨k,I⟩:=List.mem_iff_getElem?.1 ho;have:ops[mvI g (g+d) k]?=some o:=by rw[<-R];simpa using I
    exact J o (by have:=Array.mem_of_getElem? this;simpa using this)
   .simp only[y8]
    intro i k x y a2 hx hy hc p q e;rw[R]at hx hy;have ao:Bef L (mvI g (g+d) i) (mvI g (g+d) k):=by
     by_cases I:k=g+d
     .have ek:mvI g (g+d) k=g:=by unfold mvI;rw[zIn,zIn,if_pos I]
      rw[ek]at hy⊢;by_cases hi:i<g
      .have ei:mvI g (g+d) i=i:=by unfold mvI;rw[if_pos hi]
       rw[ei]at hx⊢;exact h1.bef l (T i g x y hi zOm hx hy hc)
      .have ei:mvI g (g+d) i=i+1:=by unfold mvI;rw[if_neg hi,if_pos zOm]
       rw[ei]at hx⊢;by_cases aq:i+1=g+d
       .rw [aq];exact hb
       .rw [af (i+1) x y zOm zOm hx hy]at hc
        exact absurd hc zSp
     .by_cases hi:i=g+d
      .have ei:mvI g (g+d) i=g:=by unfold mvI;rw[zIn,zIn,if_pos hi]
       have ek:mvI g (g+d) k=k:=by unfold mvI;rw[zIn,zIn,if_neg I]
       rw[ei]at hx⊢;rw[ek]at hy⊢;exact h1.bef l (T g k x y zOm zOm hx hy hc)
      .have ar:mvI g (g+d) i<mvI g (g+d) k:=by
        unfold mvI;rw[if_neg I,if_neg hi];split<;>split<;>(try split)<;>(try split)<;>omega
       have au:mvI g (g+d) i≠g:=by
        unfold mvI;rw[if_neg hi];split
        .omega
        .split<;>omega
       exact h1.bef l (T _ _ x y ar (fun h=>au h.1) hx hy hc)
    have e':L=p.map (mvI g (g+d))++mvI g (g+d) k :: q.map (mvI g (g+d)):=by
     have:=congrArg (List.map (mvI g (g+d))) e;simpa[List.map_map,Function.comp_def,e1] using this
    have:=ao _ _ e';obtain⟨z,hz,av⟩:=qp.1 this;have:z=i:=by have:=congrArg (mvP g (g+d)) av;rwa[e2,e2]at this
    exact this ▸ hz
   .intro k I
    simp only[y8,qp]at I;obtain⟨z,hz,rfl⟩:=I;rw[a1];exact an z (h3 z hz)
   .simp only[y8]
    exact List.Pairwise.map _ (fun x y aw e=>aw (by have:=congrArg (mvI g (g+d)) e;rwa[e1,e1]at this)) h4
end
end Go.Ev
namespace Go.Ev
open Go Go.RowKit
theorem qH.congr{P pl det j op ev ev' mu K C}(h:qH P pl det j op ev mu K C)(g:∀ x,x∈op.operands->ev x=ev' x):qH P pl det j op ev' mu K C:=by
 cases op<;>simp only[qH,Op.operands]at h g⊢<;>try (exact h.elim)
 case move x=>grind
 case assign x=>grind
 case makeFunc f first I =>
  grind [Yp]
 case pick c x y=>grind
 case alloc=>exact h
 case box t x=>grind
 case build t J=>rw[<-Ue g];exact h
 case buildSlice t n J=>rw[<-Ue g];exact h
 case load t x=>grind
 case store t x y=>grind
 case nilCheck x=>grind
 case binOp op t x y yt=>grind
 case unOp op t x=>grind
 case convert s t x=>grind
 case makeInterface t x=>grind
 case makeSlice t x y=>grind
 case slice t x R T U =>
  rw[<-g x zSp,<-Uf (o:=R) (fun y p=>g y (by simp only[Array.mem_append];exact .inl (.inl (.inr p)))),
   <-Uf (o:=T) (fun y p=>g y (by simp only[Array.mem_append];exact .inl (.inr p))),<-Uf (o:=U) (fun y p=>g y (by simp only[Array.mem_append];exact .inr p))]
  exact h
 case fieldAddr t x f=>grind
 case field t x f=>grind
 case indexAddr t x i=>grind
 case index t x i=>grind
 case extract x i=>grind
 case typeAssert x xt t ok=>grind
 case makeMap=>exact h
 case lookup t m k ok=>grind
 case mapUpdate t m k v=>grind
 case insert t m k v=>grind
 case mapEntry t m k=>grind
 case entryStore t m k v=>grind
 case range t m=>grind
 case next i str=>grind
 case entry i=>grind
 case panic x=>grind
 case call c =>
  obtain⟨callee,args,a0⟩:=c;cases callee with
  |invoke r m=>exact h.elim
  |value f =>
   grind [Call.operands,Yp]
  |builtin b =>
   simp only[Call.operands]at g;simp only at h⊢;rw[<-Yp (l:=args) (fun x hx=>g x (zP1 hx))];exact h
def qiO(o:yj):Bool:=
 match o.op with
 | .call c=>match c.callee with | .builtin .len | .builtin .cap | .builtin .min | .builtin .max=>false|_=>true
 | .panic _ | .next .. => true
 |_=>false
def yn(ops:Array yj)(i:Nat):Option Tmp:=(ops[i]?).bind (·.dst)
def jN(ops:Array yj)(i:Nat)(t:Tmp):Bool:=match ops[i]? with|some o=>(Qj ops o).contains t|none=>false
def Xe(ops:Array yj)(i:Nat):Bool:=match ops[i]? with|some o=>memR o|none=>false
def Yq(st:St)(d:Tmp)(mu:Mu):AV->Mu->Prop:=fun v m=>v=st.tm d/\m=mu
def noK:AV->Mu->Prop:=fun _ _=>False
end Go.Ev
namespace Go.Ev
open Go Go.RowKit
section
variable {a:Act}{ops:Array yj}{G:Gh}{O g:List Nat}{i:Nat}{o:yj}{pl:Pol}{P:qc}{st:St}{w:qe}
def ZO(o:yj):Bool:=match o.op with | .alloc _=>true|_=>false
def JM(pl:Pol)(o:yj):Nat:=if ZO o then 2 else if memW pl o||qiO o then 1 else 0
def zY(pl:Pol)(ops:Array yj)(i:Nat):Nat:=match ops[i]? with|some o=>JM pl o|none=>0
def pend(pl:Pol)(ops:Array yj)(pre:List Nat)(j:Nat):List Nat:=pre.filter fun p=>zY pl ops p == 0&&(Xe ops p&&!(jb ops j).testBit p)
def Ui(pl:Pol)(ops:Array yj):List Nat->List Nat->Bool
 |_,[]=>true
 |pre,j :: O=>(!pre.contains j&&((qu ops.size).all fun i=>match yn ops i with|some d=>!jN ops j d||pre.contains i|none=>true)) &&
   ((zY pl ops j == 2||pre.all fun i=>zY pl ops i == 0||(jb ops j).testBit i)&&Ui pl ops (pre++[j]) O)
def JN(pl:Pol)(ops:Array yj)(O:List Nat):Bool:=
 (jB ops&&(ops.toList.all fun o=>!ZO o||o.guard.isNone))&&((O.all fun i=>decide (i<ops.size))&&((qu ops.size).all fun i=>O.contains i)) &&
 (((qu ops.size).all fun i=>match yn ops i with
  |some d=>(qu ops.size).all fun j=>(i == j||yn ops j != some d)&&(!jN ops j d||(jb ops j).testBit i)
  |none=>zY pl ops i == 1)&&Ui pl ops [] O)
structure wC (pl:Pol) (ops:Array yj) (O:List Nat):Prop where
 edges:jB ops=true
 guards:∀(i:Nat)(o:yj),ops[i]?=some o->ZO o=true->o.guard=none
 lt:∀ i,i∈O->i<ops.size
 all:∀ i,i<ops.size->i∈O
 du:∀ i j d,i<ops.size->j<ops.size->yn ops i=some d->(i≠j->yn ops j≠some d)/\(jN ops j d=true->(jb ops j).testBit i=true)
 dn:∀ i,i<ops.size->yn ops i=none->zY pl ops i=1
 ord:∀(PO lO:List Nat)(j:Nat),O=PO++j :: lO->j ∉ PO/\(∀ i d,i<ops.size->yn ops i=some d->jN ops j d=true->i∈PO)/\(zY pl ops j≠2->∀ i,i∈PO->zY pl ops i≠0->(jb ops j).testBit i=true)
theorem gY:∀ O pre,Ui pl ops pre O=true->∀ g l j,O=g++j :: l ->
  j ∉ pre++g/\(∀ i d,i<ops.size->yn ops i=some d->jN ops j d=true->i∈pre++g)/\(zY pl ops j≠2->∀ i,i∈pre++g->zY pl ops i≠0->(jb ops j).testBit i=true)
 | [],pre,h,g,l,j,e=>by cases g<;>simp at e
 |k :: O,pre,h,g,l,j,e=>by
  simp only[Ui,qD]at h;obtain⟨⟨t,C⟩,I,o⟩:=h;cases g with
  |nil =>
   grind
  |cons p g =>
   simp only[yq,vK]at e;obtain⟨rfl,e⟩:=e;have:=gY O (pre++[k]) o g l j e;simpa using this
theorem qiP(h:JN pl ops O=true):wC pl ops O:=by
 unfold JN at h;simp only[qD]at h;obtain⟨⟨⟨C,l⟩,p,t⟩,I,J⟩:=h;simp only[qY,zW]at l p t I;refine⟨C,fun i o ho P=>?_,fun i g=>by simpa using p i g,fun i g=>by simpa using t i g,fun i j d g hj R=>?_,fun i g R=>?_,fun T U j e=>?_⟩
 .have:=l o (by grind)
  rw[P]at this;simpa using this
 .grind
 .grind
 .have:=gY O [] J T U j e
  simpa using this
def JO(P:qc)(pl:Pol)(o:yj)(st:St):Prop:=qH P pl true o.dst o.op st.ev st.mu (match o.dst with|some d=>Yq st d st.mu|none=>noK) noK
def uQ(P:qc)(pl:Pol)(ops:Array yj):List Nat->St->Prop
 | [],_=>True
 |p :: l,U=>(match ops[p]? with|some o=>OptK (yN ops U o) fun b=>Br b (JO P pl o U) True|none=>True)/\uQ P pl ops l U
theorem Xf:∀{l},uQ P pl ops l st->∀{i o d},i∈l->ops[i]?=some o->o.dst=some d->yN ops st o=some true->DS P pl o st.ev st.mu (st.tm d) st.mu
 | [],_,i,_,_,p,_,_,_=>absurd p qO
 |j :: l,h,i,o,d,p,C,I,J=>by
  obtain⟨g,R⟩:=h;rcases qz.1 p with rfl|p
  .rw [C]at g
   obtain⟨b,t,g,_⟩:=g;rw[J]at t;have g:JO P pl o st:=g (by cases t;rfl);unfold JO at g;have e:(match o.dst with|some d=>Yq st d st.mu|none=>noK)=Yq st d st.mu:=by rw[I]
   rw[e]at g;exact g
  .exact Xf R p C I J
def plan(pl:Pol)(ops:Array yj):List Nat->List Nat->List (Nat×Nat×List Nat)
 |_,[]=>[]
 |pre,j :: O=>(j,zY pl ops j,if zY pl ops j=0 then [] else pend pl ops pre j) :: plan pl ops (pre++[j]) O
def wD(P:qc)(ops:Array yj):List (Nat×Nat×List Nat)->Prop
 | []=>True
 | (j,k,_) :: T=>(match k,ops[j]? with|2,some o=>(match o.op with | .alloc e=>OptK (qB P e) fun z=>z.cells.all AV.one=true|_=>False)|_,_=>True)/\wD P ops T
def awpT(P:qc)(pl:Pol)(ops:Array yj)(Q:St->Prop)(g:AV->St->Prop):List (Nat×Nat×List Nat)->St->Prop
 | [],U=>Q U
 | (j,k,r) :: T,U=>match ops[j]? with
  |none=>False
  |some o=>OptK (yN ops U o) fun b=>Br b (qH P pl (k != 1) o.dst o.op U.ev U.mu (fun v m=>uQ P pl ops r (U.put o.dst v m)/\awpT P pl ops Q g T (U.put o.dst v m)) (fun v m=>k=1/\∀ i,g v ⟨i,m⟩)) (awpT P pl ops Q g T (U.put o.dst (.sc z6) U.mu))
def SegA(P:qc)(pl:Pol)(ops:Array yj)(Q:St->Prop)(g:AV->St->Prop)(st:St):Prop:=
 ∃ O,JN pl ops O=true/\wD P ops (plan pl ops [] O)/\awpT P pl ops Q g (plan pl ops [] O) st
theorem s9{ro G0 a8 w0 n}(r:Rel ro G0 a8 w0 n G st a w){d:Tmp}{b e zv}(h1:(ofV zv).cells.all AV.one=true)
  (ht:a.tmps.getD d z6 = .pointer (some ⟨b,0,none⟩)) (hb:w.heap[b]?=some (.cells zv.cells e)) (a2:w0.heap.size<=b) (hl:¬Live G st.mu b) (I:¬G.imm b) :
  Rel ro G0 a8 w0 n ⟨G.imm,G.blk++[(b,zv.cells.size)]⟩ (st.put (some d) (.ptr st.mu.length 0) (st.mu++[.arr (ofV zv).cells])) a w:=by
 have s:=r.stp.sim;have a1:=s.len;have J:G.le ⟨G.imm,G.blk++[(b,zv.cells.size)]⟩:=⟨fun b h=>h,fun i x h=>by
  grind⟩
 have he:=Ext.refl G w.heap;have o:∀{i:Nat}{c':Cell}{g C:Nat},i<st.mu.length->(G.blk++[(b,zv.cells.size)])[i]?=some (g,C)->G.blk[i]?=some (g,C):=fun {i c' g C} I hk=>by
  grind
 have new:∀{i g C:Nat},i=st.mu.length->(G.blk++[(b,zv.cells.size)])[i]?=some (g,C)->(g,C)=(b,zv.cells.size):=fun {i g C} I hk=>by
  grind
 have P:∀ x,Live ⟨G.imm,G.blk++[(b,zv.cells.size)]⟩ (st.mu++[.arr (ofV zv).cells]) x->Live G st.mu x\/x=b:=fun x ⟨i,c',t',hc,hd,hk⟩=>by
  rcases yB hc with ⟨I,l⟩|⟨I,l⟩
  .exact .inl ⟨i,c',t',l,hd,o (c':=c') I hk⟩
  grind
 have a3:uB G w.heap zv.cells.size (.cells zv.cells e) (.arr (ofV zv).cells):=by
  have hv:VRel G w.heap (ofV zv) zv:=VRel.ofV zv;obtain⟨ag,T,_⟩:=hv.cells (fun c hc=>by simpa using qY.1 h1 c hc);exact⟨zv.cells,e,rfl,rfl,zOm,fun j y hj=>⟨by grind,T j y hj⟩⟩
 have a9:Sim ⟨G.imm,G.blk++[(b,zv.cells.size)]⟩ (st.mu++[.arr (ofV zv).cells]) w.heap:=by
  refine⟨zP1 a1,s.imm,?_,?_,?_,s.tab⟩
  .intro i c' g R hc hd hk
   rcases yB hc with ⟨I,l⟩|⟨I,l⟩
   .obtain ⟨o',q1,q2⟩:=s.obj i c' g R l hd (o (c':=c') I hk)
    exact⟨o',q1,q2.mono J he⟩
   .obtain ⟨rfl,rfl⟩:=Prod.mk.inj (new I hk)
    subst l;exact⟨_,hb,a3.mono J he⟩
  .intro i c' g R hc hd hk aa
   rcases yB hc with ⟨I,l⟩|⟨ab,l⟩
   .exact s.live i c' g R l hd (o (c':=c') I hk) aa
   grind
  .intro i j ci cj x ti tj ab af ad ae a4 a5
   rcases yB ab with ⟨U,a6⟩|⟨U,a6⟩<;>rcases yB af with ⟨a0,a7⟩|⟨a0,a7⟩
   .exact s.inj i j ci cj x ti tj a6 a7 ad ae (o (c':=ci) U a4) (o (c':=cj) a0 a5)
   .have a:=o (c':=ci) U a4
    have c:=new a0 a5;obtain⟨rfl,_⟩:=Prod.mk.inj c;exact absurd ⟨i,ci,ti,a6,ad,a⟩ hl
   .have a:=o (c':=cj) a0 a5
    have c:=new U a4;obtain⟨rfl,_⟩:=Prod.mk.inj c;exact absurd ⟨j,cj,tj,a7,ae,a⟩ hl
   .omega
 refine⟨fun t=>?_,fun h=>?_,r.size,⟨r.stp.le.trans J,a9,r.stp.keep,r.stp.size,fun x hx=>?_,r.stp.inew,r.stp.tape,r.stp.os,r.stp.output,r.stp.drawn⟩,fun p hp=>(r.kp p hp).mono J he⟩
 .by_cases e:t=d
  .subst e
   have:(st.put (some t) (.ptr st.mu.length 0) (st.mu++[.arr (ofV zv).cells])).tm t = .ptr st.mu.length 0:=by simp[St.put]
   rw[this,ht];refine .ptr _ _ _ zv.cells.size ?_;show (G.blk++[_])[st.mu.length]?=_;rw[<-a1];simp
  .rw [jY (fun h=>e (by cases h;rfl))]
   exact(r.tm t).mono J he
 .obtain ⟨Ds,q1,q2,q3⟩:=r.df h
  refine⟨Ds,q1,q2,fun D hD=>⟨(q3 D hD).1,(q3 D hD).2.obj,fun hx=>?_,(q3 D hD).2.nimm⟩⟩;rcases P D hx with hx|rfl
  .exact (q3 D hD).2.nlive hx
  .have:=(q3 D hD).2.obj
   rw[hb]at this;cases this
 .rcases P x hx with hx|rfl
  .exact r.stp.live x hx
  .exact .inr a2
def behind(pl:Pol)(ops:Array yj)(g j pre:List Nat)(t:Tmp):Prop:=(∃ i,i∈g/\i ∉ pre/\yn ops i=some t)\/∃ i,i∈j/\zY pl ops i=2/\yn ops i=some t
open Classical in
noncomputable def jC(pl:Pol)(ops:Array yj)(g i pre:List Nat)(st:St):St:=⟨fun t=>if behind pl ops g i pre t then .any else st.tm t,st.mu⟩
theorem uh{i pre t}(h:¬behind pl ops g i pre t):(jC pl ops g i pre st).tm t=st.tm t:=by
 unfold jC;simp only;rw[if_neg h]
theorem Yr{i pre t}(h:behind pl ops g i pre t):(jC pl ops g i pre st).tm t = .any:=by
 unfold jC;simp only;rw[if_pos h]
structure AlF (P:qc) (ops:Array yj) (G:Gh) (mu:Mu) (base:Nat) (a:Act) (w:qe) (i b:Nat):Prop where
 x:∃(o:yj) (e:qd) (d:Tmp) (zv:qf),ops[i]?=some o/\o.op = .alloc e/\o.dst=some d/\qB P e=some (ofV zv)/\a.tmps.getD d z6 = .pointer (some ⟨b,0,none⟩)/\w.heap[b]?=some (.cells zv.cells e)
 base:base<=b
 nl:¬Live G mu b
 ni:¬G.imm b
theorem AlF.lt{mu base b}(h:AlF P ops G mu base a w i b):b<w.heap.size:=by
 obtain⟨o,e,d,g,_,_,_,_,_,j⟩:=h.x
 grind
theorem AlF.step{G' mu mu' base C w' b}(h:AlF P ops G mu base a w i b)(t:Stp G mu w G' mu' w')(ht:∀ d,yn ops i=some d->C.tmps.getD d z6=a.tmps.getD d z6):AlF P ops G' mu' base C w' i b:=by
 have l:=h.lt;obtain⟨o,e,d,I,J,p,R,T,hp,U⟩:=h.x;refine⟨⟨o,e,d,I,J,p,R,T,?_,?_⟩,h.base,fun j=>?_,fun g=>?_⟩
 .grind [yn]
 .rw [t.keep b l h.nl];exact U
 .rcases t.live b j with j|j
  .exact h.nl j
  .omega
 .rcases t.inew b g with g|g|g
  .exact h.ni g
  .exact h.nl g
  .omega
theorem Rel.weak{ro j i l n g}(r:Rel ro j i l n G st a w)(o:g.mu=st.mu)(p:∀ t,g.tm t = .any\/g.tm t=st.tm t):Rel ro j i l n G g a w:=by
 refine⟨fun t=>?_,fun h=>by rw[o];exact r.df h,r.size,by rw[o];exact r.stp,r.kp⟩;rcases p t with e|e
 .rw [e];exact .any _
 .rw [e];exact r.tm t
def DG(P:qc)(pl:Pol)(ops:Array yj)(o:yj)(st:St)(d:Tmp)(m:Mu):Prop:=∃ b,yN ops st o=some b/\(b=true->DS P pl o st.ev m (st.tm d) m)/\(b=false->st.tm d = .sc z6)
theorem DG.re{d m g}(h:DG P pl ops o st d m)(l:memW pl o=false)(p:memR o=true->yN ops st o=some true->DS P pl o st.ev g (st.tm d) g):DG P pl ops o st d g:=by
 obtain⟨b,i,t,C⟩:=h;refine⟨b,i,fun e=>?_,C⟩;subst e;cases j:memR o with
 |true=>exact p j i
 |false=>exact((t rfl).mem l).2 j g
theorem Uj{g}(h:∀ t,(Qj ops o).contains t=true->g.tm t=st.tm t):yN ops g o=yN ops st o:=by
 grind [yN,bind,Qj]
theorem qiQ(h:o.guard=none):yN ops st o=some true:=by
 unfold yN;rw[h]
structure SegI (P:qc) (pl:Pol) (ops:Array yj) (O:List Nat) (ro:Ro) (G0:Gh) (mu0:Mu) (w0:qe) (n:Nat) (Q:St->Prop) (Qp:AV->St->Prop) (pre:List Nat) (a:Act) (w:qe) (PO lO:List Nat) (st:St) (G:Gh) (B:Nat->Nat):Prop where
 split:O=PO++lO
 awp:awpT P pl ops Q Qp (plan pl ops PO lO) st
 s:∀ i,i∈PO->zY pl ops i≠0->i∈pre
 d:∀ i,i∈pre->zY pl ops i≠2->i∈PO
 p:∀ i o d,i∈PO->i ∉ pre->ops[i]?=some o->o.dst=some d->DG P pl ops o st d st.mu
 al:∀ i,i∈lO->i∈pre->AlF P ops G st.mu w0.heap.size a w i (B i)
 inj:∀ i j,i∈lO->j∈lO->i∈pre->j∈pre->i≠j->B i≠B j
 rel:Rel ro G0 mu0 w0 n G (jC pl ops PO lO pre st) a w
theorem Uk{k}(g:ops[k]?=some o){t}(i:Operand.tmp t∈o.op.operands):jN ops k t=true:=by
 simp only[jN,g,List.contains_iff_mem,Qj,W6,qP,List.mem_filterMap];exact .inl ⟨.tmp t,zUs i,rfl⟩
theorem wC.disj{j}(K:wC pl ops O)(h:O=g++j){i}(l:i∈j):i ∉ g:=by
 obtain⟨s,t,rfl⟩:=List.append_of_mem l;have:=(K.ord (g++s) t i (by rw[h];simp)).1
 grind
theorem wC.rd{j}(K:wC pl ops O)(h:O=j++g){i e d}(o:i∈j)(l:e∈g)(p:yn ops e=some d):jN ops i d=false:=by
 cases C:jN ops i d with
 |false=>rfl
 |true =>
  obtain⟨s,t,rfl⟩:=List.append_of_mem o;have:=(K.ord s (t++g) i (by rw[h];simp)).2.1 e d (K.lt e (by rw[h];simp[l])) p C;exact absurd (jh _ this) (K.disj h l)
theorem Xg(g:ops[i]?=some o)(h:zY pl ops i=0):memW pl o=false:=by
 unfold zY at h;rw[g]at h;simp only[JM]at h
 grind
theorem qiR(g:ops[i]?=some o)(h:zY pl ops i=2):∃ e,o.op = .alloc e:=by
 grind [zY,JM,ZO]
theorem gZ(pl ops i):zY pl ops i=0\/zY pl ops i=1\/zY pl ops i=2:=by
 unfold zY;split
 .unfold JM
  split
  .exact .inr (.inr rfl)
  grind
 .exact .inl rfl
section
variable {P:qc} {pl:Pol} {ops:Array yj} {O:List Nat} {ro:Ro} {G0:Gh} {mu0:Mu} {w0:qe} {n:Nat} {Q:St->Prop} {Qp:AV->St->Prop} {pre:List Nat} {a:Act} {w:qe}
theorem fS(K:wC pl ops O){PO lO e}(I:O=PO++e :: lO){st:St}{i o j}{d:Tmp}(R:i∈PO)(ho:ops[i]?=some o)(T:ops[e]?=some j)(hd:o.dst=some d){m J v}(h:DS P pl o st.ev m (st.tm d) m) :
  DS P pl o (st.put j.dst v J).ev m ((st.put j.dst v J).tm d) m:=by
 have l:e∈e :: lO:=zo ..;have U:i≠e:=fun h=>K.disj I l (h ▸ R)
 have a0:i<ops.size:=K.lt i (by rw[I];simp[R]);have p:e<ops.size:=K.lt e (by rw[I];simp);have a1:yn ops i=some d:=by simp[yn,ho,hd]
 have C:yn ops e=j.dst:=by simp[yn,T]
 have e1:(st.put j.dst v J).tm d=st.tm d:=jY (fun h=>(K.du i e d a0 p a1).1 U (by rw[C];exact h));rw[e1];refine h.congr fun x hx=>?_
 cases x with
 |tmp t =>
  show st.tm t=(st.put j.dst v J).tm t;refine(jY fun h=>?_).symm;have h1:=K.rd I R l (by rw[C];exact h)
  grind [Uk]
 |const v=>rfl
 |global g=>rfl
 |func f=>rfl
theorem fT(K:wC pl ops O){PO lO e}(g:O=PO++e :: lO){st i o J d}(R:i∈PO)(T:ops[i]?=some o)(j:ops[e]?=some J)(hd:o.dst=some d){m m' v}(h:DG P pl ops o st d m) :
  DG P pl ops o (st.put J.dst v m') d m:=by
 obtain⟨b,hb,l,h2⟩:=h;have p:e∈e :: lO:=zo ..;have U:i≠e:=fun h=>K.disj g p (h ▸ R)
 have a0:i<ops.size:=K.lt i (by rw[g];simp[R]);have C:e<ops.size:=K.lt e (by rw[g];simp);have a1:yn ops i=some d:=by simp[yn,T,hd]
 have I:yn ops e=J.dst:=by simp[yn,j]
 have e1:(st.put J.dst v m').tm d=st.tm d:=jY (fun h=>(K.du i e d a0 C a1).1 U (by rw[I];exact h));refine⟨b,?_,fun e=>fS K g R T j hd (l e),fun e=>by rw[e1];exact h2 e⟩;rw[Uj fun t ht=>?_]
 .exact hb
 .refine jY fun h=>?_
  have l:=K.rd g R p (by rw[I];exact h);simp only[jN,T]at l;rw[ht]at l;cases l
theorem fK(K:wC pl ops O){PO U e st G B}(h:SegI P pl ops O ro G0 mu0 w0 n Q Qp pre a w PO (e :: U) st G B)(hk:zY pl ops e=0) :
  ∃ a5,SegI P pl ops O ro G0 mu0 w0 n Q Qp pre a w (PO++[e]) U a5 G B:=by
 have a6:e∈e :: U:=zo ..;have T:=K.disj h.split a6;have a7:e ∉ pre:=fun h'=>T (h.d e h' zOm)
 have C:e<ops.size:=K.lt e (by rw[h.split];simp);have ho:ops[e]?=some ops[e]:=zP1 C;generalize ops[e]=o at ho;have hw:=h.awp;simp only[plan,hk,awpT,ho]at hw;obtain⟨b,hb,a8,ad⟩:=hw;have hw:∃ v,(b=true->DS P pl o st.ev st.mu v st.mu)/\(b=false->v = .sc z6)/\awpT P pl ops Q Qp (plan pl ops (PO++[e]) U) (st.put o.dst v st.mu):=by
  cases b with
  |false=>grind
  |true =>
   obtain⟨v,m,a0,a4⟩:=qH.det (o:=o) (h:=a8 rfl);obtain rfl:=(a0.mem (Xg ho hk)).1
   grind
 obtain⟨v,a0,a9,a4⟩:=hw;have I:yn ops e=o.dst:=by simp[yn,ho]
 cases hd:o.dst with
 |none=>have:=K.dn e C (by rw[I,hd]);omega
 |some d =>
  rw[hd]at I;have aa:O=(PO++[e])++U:=by rw[h.split];simp
  refine⟨st.put o.dst v st.mu,aa,a4,fun i l a1=>?_,fun i l a1=>?_,fun i o' d' l a2 J R=>?_,fun i l a2=>h.al i (q9 _ l) a2,fun i j l hj=>h.inj i j (q9 _ l) (q9 _ hj),?_⟩
  .rcases qP.1 l with l|l
   .exact h.s i l a1
   grind
  .exact jh _ (h.d i l a1)
  .show DG P pl ops o' (st.put o.dst v st.mu) d' st.mu
   rcases qP.1 l with l|l
   .exact fT K h.split l J ho R (h.p i o' d' l a2 J R)
   .rw [qX]at l;subst l
    rw[ho]at J;cases J;rw[hd]at R;cases R;have e1:(st.put o.dst v st.mu).tm d=v:=by simp[St.put,hd]
    have ab:∀ t,jN ops i t=true->(st.put o.dst v st.mu).tm t=st.tm t:=fun t ht=>by
     refine jY fun h'=>?_
     have a3:t=d:=by rw[hd]at h';cases h';rfl
     subst a3;exact T ((K.ord PO U i h.split).2.1 i t C I ht)
    refine⟨b,by grind [Uj,jN],fun e=>?_,fun e=>by rw[e1];exact a9 e⟩;rw[e1];refine(a0 e).congr fun x hx=>?_
    cases x with
    |tmp t =>
     show st.tm t=(st.put o.dst v st.mu).tm t;exact(ab t (Uk ho hx)).symm
    |const v=>rfl
    |global g=>rfl
    |func f=>rfl
  .refine h.rel.weak rfl fun t=>?_
   by_cases hb:behind pl ops (PO++[e]) U pre t
   .exact .inl (Yr hb)
   .right
    rw[uh hb];have a3:o.dst≠some t:=fun h'=>hb (.inl ⟨e,zSp,a7,by rw[I];rw[hd]at h';exact h'⟩)
    rw[jY a3,uh];rintro (⟨i,h1,h2,h3⟩|⟨i,h1,h2,h3⟩)
    .exact hb (.inl ⟨i,jh _ h1,h2,h3⟩)
    .rcases qz.1 h1 with rfl|h1
     .omega
     .exact hb (.inr ⟨i,h1,h2,h3⟩)
theorem fA(K:wC pl ops O)(ag:∀ i k,(jb ops k).testBit i=true->k∈pre->i∈pre){PO lO e st G B}(h:SegI P pl ops O ro G0 mu0 w0 n Q Qp pre a w PO (e :: lO) st G B)(hk:zY pl ops e=2)(a3:e∈pre) :
  ∃ a8 G',SegI P pl ops O ro G0 mu0 w0 n Q Qp pre a w (PO++[e]) lO a8 G' B:=by
 have a1:e∈e :: lO:=zo ..;have ah:=K.disj h.split a1;have ai:e<ops.size:=K.lt e (by rw[h.split];simp);have I:=h.al e a1 a3;obtain⟨o,ty,d,zv,ho,a4,hd,hz,hp,hb⟩:=I.x;have a9:yn ops e=some d:=by simp[yn,ho,hd]
 have J:=h.awp;simp only[plan,hk,awpT,ho]at J;rw[qiQ (K.guards e o ho (by simp[ZO,a4]))]at J;obtain⟨b,aa,J,_⟩:=J;have J:=J (by cases aa;rfl);simp only[a4]at J;simp only[qH]at J;obtain⟨z,aj,h1,ab,ad⟩:=J;have:z=ofV zv:=by
  grind
 subst this;have a5:O=(PO++[e])++lO:=by rw[h.split];simp
 have a6:=s9 (st:=jC pl ops PO (e :: lO) pre st) h.rel h1 hp hb I.base I.nl I.ni;refine⟨st.put o.dst (.ptr st.mu.length 0) (st.mu++[.arr (ofV zv).cells]),⟨G.imm,G.blk++[(B e,zv.cells.size)]⟩,a5,ad,fun i g l=>?_,fun i g l=>?_,fun i o' d' g C R a2=>?_,fun i g C=>?_,fun i j g hj=>h.inj i j (q9 _ g) (q9 _ hj),?_⟩
 .rcases qP.1 g with g|g
  .exact h.s i g l
  grind
 .exact jh _ (h.d i g l)
 .have g:i∈PO:=by
   grind
  have l:zY pl ops i=0:=by
   by_cases hh:zY pl ops i=0
   .exact hh
   .exact absurd (h.s i g hh) C
  refine(fT K h.split g R ho a2 (h.p i o' d' g C R a2)).re (Xg R l) fun hm hb=>?_
  refine Xf ab (i:=i) ?_ R a2 hb;rw[zIn];refine jg.2 ⟨g,?_⟩
  grind [jb,absurd,Xe]
 .have ae:i≠e:=fun hh=>by
   subst hh;exact K.disj a5 g zSp
  have T:=h.al i (q9 _ g) C;refine⟨T.x,T.base,fun hl=>?_,T.ni⟩;obtain⟨j,c,t,hc,af,a7⟩:=hl;have a0:=h.rel.stp.sim.len;have a0:G.blk.length=st.mu.length:=a0;rcases yB hc with ⟨q1,q2⟩|⟨q1,q2⟩
  .rcases yB a7 with ⟨_,q3⟩|⟨q3,_⟩
   .exact T.nl ⟨j,c,t,q2,af,q3⟩
   .omega
  .rcases yB a7 with ⟨q3,_⟩|⟨_,q3⟩
   .omega
   .exact h.inj i e (q9 _ g) a1 C a3 ae (Prod.mk.inj q3).1
 .refine a6.weak rfl fun t=>?_
  by_cases hb:behind pl ops (PO++[e]) lO pre t
  .exact .inl (Yr hb)
  .right
   rw[uh hb,hd];by_cases U:t=d
   .subst U;simp[St.put];rfl
   .rw [jY (fun h'=>U (by cases h';rfl)),jY (fun h'=>U (by cases h';rfl)),uh]
    rintro (⟨i,h1,h2,h3⟩|⟨i,h1,h2,h3⟩)
    .exact hb (.inl ⟨i,jh _ h1,h2,h3⟩)
    .rcases qz.1 h1 with rfl|h1
     .rw [a9]at h3;cases h3;exact U rfl
     .exact hb (.inr ⟨i,h1,h2,h3⟩)
theorem fC(K:wC pl ops O)(g:∀ i k,(jb ops k).testBit i=true->k∈pre->i∈pre){B}:∀ es j l st G,SegI P pl ops O ro G0 mu0 w0 n Q Qp pre a w j (es++l) st G B->(∀ i,i∈es->zY pl ops i≠1/\(zY pl ops i=2->i∈pre)) ->
  ∃ p G',SegI P pl ops O ro G0 mu0 w0 n Q Qp pre a w (j++es) l p G' B
 | [],j,l,st,G,h,_=>⟨st,G,zUs h⟩
 |e :: es,j,l,st,G,h,t=>by
  obtain⟨c1,c2⟩:=t e (zo ..);rcases gZ pl ops e with o|o|o
  .obtain ⟨st1,C⟩:=fK K h o
   obtain⟨st2,J,R⟩:=fC K g es (j++[e]) l st1 G C fun i I=>t i (q9 _ I)
   grind
  .exact absurd o c1
  .obtain ⟨st1,T,C⟩:=fA K g h o (c2 o)
   obtain⟨st2,J,R⟩:=fC K g es (j++[e]) l st1 T C fun i I=>t i (q9 _ I)
   grind
end
end
section
variable {ops:Array yj}{P:qc}
theorem fP{G mu w}(s:Sim G mu w.heap)(o):Stp G mu w G mu (w.alloc o):=by
 have g:=Wz s o;refine⟨.refl G,⟨s.len,fun b j=>ZC (s.imm b j) g.size,?_,s.live,s.inj,s.tab.mono (fun _ h=>h) g.keep⟩,fun b j _=>ZG w o b j,g.size,fun b h => .inl h,fun b h => .inl h,rfl,rfl,rfl,qn _⟩;intro i c l p t C I;obtain⟨J,R,P⟩:=s.obj i c l p t C I;exact⟨J,by grind [ZG,yI],P.mono (.refl G) g⟩
theorem qiS{ro}{o:yj}{e}(g:o.op = .alloc e){z}(j:qB P e=some z){a w next Q}
  (h:∀ zv,z=ofV zv->next (a.put o.dst (.pointer (some ⟨w.heap.size,0,none⟩))) (w.alloc (.cells zv.cells e))):o.wpIn (WF ro) 0 P a w next Q:=by
 obtain⟨l,op,t,pos,after,guard⟩:=o;simp only at g h;subst g;refine⟨fun _ _=>trivial,?_⟩;rw[show (WF ro).round=ro.rd from rfl,Oper.semAt_eq _ _ _ (fun c e=>by cases e)];obtain⟨zv,i,p⟩:=ZI j w;refine gB ?_;have C:(newVar e zv).run P w = .ok ⟨w.heap.size,0,none⟩ (w.alloc (.cells zv.cells e)):=rfl;simp_all[execOp,Instr.alloc,qQ,qS,Oper.upon]
theorem qiT{pl ro G0 aa w0 n}(s0:Sim G0 aa w0.heap)(b8:(ops.toList.all fun o=>dOk n o.dst)=true)
  {Q} {Qp} {QQ} (hQ:∀ st a w G,Q st->Rel ro G0 aa w0 n G st a w->QQ .normal a w)
  (bk:∀ v st a w G u,Qp v st->Rel ro G0 aa w0 n G st a w->VRel G w.heap v u->QQ (.panic [{ v:=u,recovered:=false }]) a w) {st} {a} {w} {G} (r:Rel ro G0 aa w0 n G st a w)
  (h:SegA P pl ops Q Qp st) (ab) (t):wpOpsIn (WF ro) 0 P ops QQ (Region.schedule ab ops t) a w:=by
 obtain⟨O,bl,b9,h⟩:=h;have K:=qiP bl;obtain⟨h1,h2⟩:=gG K.edges ab t;obtain⟨h3,h4⟩:=s8 K.edges _ _ rfl h1;have h3:=fun k hk=>(h3 k hk).1
 generalize Region.schedule ab ops t=L at *
 have bb:∀ i,i<ops.size->i∈L:=by
  intro i l;refine uL fun hn=>?_
  have bm:(i :: L).length<=(qu ops.size).length:=jl (ve.2 ⟨hn,h4⟩) (fun k hk=>by
   grind)
  simp at bm;omega
 have ay:∀(i:Nat)(o:yj)(e:qd),ops[i]?=some o->o.op = .alloc e->∃ z,qB P e=some z:=by
  have gen:∀(O pre:List Nat),wD P ops (plan pl ops pre O)->∀ i,i∈O->∀(o:yj)(e:qd),ops[i]?=some o->o.op = .alloc e->∃ z,qB P e=some z:=by
   intro O;induction O with
   |nil=>grind
   |cons j O ih =>
    intro pre hn i l o e ho a9;simp only[plan,wD]at hn;rcases qz.1 l with rfl|l
    .have hk:zY pl ops i=2:=by
      unfold zY;rw[ho];simp[JM,ZO,a9]
     have hn:=hn.1;rw[hk,ho]at hn;simp only[a9]at hn;obtain⟨z,hz,_⟩:=hn;exact⟨z,hz⟩
    grind
  exact fun i o e ho a9=>gen O [] b9 i (K.all i (yI.1 ho).1) o e ho a9
 have key:∀(post pre:List Nat)(a:Act)(w:qe)(G:Gh)(PO lO:List Nat)(ad:St)(B:Nat->Nat),L=pre++post->SegI P pl ops O ro G0 aa w0 n Q Qp pre a w PO lO ad G B->wpOpsIn (WF ro) 0 P ops QQ post a w:=by
  intro post;induction post with
  |nil =>
   intro pre a w G PO lO ad B hL I;rw[ye]at hL;subst hL;have az:∀ i,i<ops.size->i∈L:=bb;obtain⟨st2,G2,I2⟩:=fC K (fun i k hb hk=>h3 k hk |> fun _=>by
    have:=h1.bef K.edges hb;obtain⟨s,t,e⟩:=List.append_of_mem hk;have:=this s t e
    grind) lO PO [] ad G (by simpa using I) (fun i l=>by
    have bc:=K.lt i (by rw[I.split];simp[l]);refine⟨fun hk=>K.disj I.split l (I.d i (az i bc) zOm),fun _=>az i bc⟩)
   simp only[wpOpsIn];have hw:=I2.awp;simp only[plan,awpT]at hw;refine hQ st2 a w G2 hw (I2.rel.weak rfl fun t => .inr ?_);refine(uh ?_).symm;rintro (⟨i,q1,q2,q3⟩|⟨i,q1,_⟩)
   .exact q2 (az i (K.lt i (by rw[I2.split];simp;simpa using q1)))
   grind
  |cons k post ih =>
   intro pre a w G PO lO ad B hL I;have hk:k<ops.size:=h3 k (by rw[hL];simp);have cc:(pre++k :: post).Nodup:=by rw[<-hL];exact h4
   have b0:k ∉ pre:=fun hh=>by
    grind
   have ho:ops[k]?=some ops[k]:=zP1 hk;generalize ca:ops[k]=o at ho;have aj:dOk n o.dst=true:=qY.1 b8 o (by grind);have bef:∀ i,(jb ops k).testBit i=true->i∈pre:=fun i l=>h1.bef K.edges l pre post hL
   have be:∀ i j,(jb ops j).testBit i=true->j∈pre->i∈pre:=fun i j hb hj=>by
    obtain⟨s,t,e⟩:=List.append_of_mem hj;have:=h1.bef K.edges hb s (t++k :: post) (by rw[hL,e];simp);rw[e];exact jh _ this
   have b1:L=(pre++[k])++post:=by rw[hL];simp
   have ae:yn ops k=o.dst:=by simp[yn,ho]
   have ak:∀(i:Nat)(d:Tmp),i<ops.size->i≠k->yn ops i=some d->∀ u,(a.put o.dst u).tmps.getD d z6=a.tmps.getD d z6:=fun i d l T hd u=>by
    cases bn:o.dst with
    |none=>rfl
    |some x =>
     have bo:x≠d:=fun e=>(K.du i k d l hk hd).1 T (by rw[ae,bn,e])
     simp only[Act.put,qU];rw[Array.getElem?_setIfInBounds_ne bo]
   have au:∀(J a0:List Nat),lO=J++a0->(∀ i,i∈J->zY pl ops i≠0->(jb ops k).testBit i=true)->∃ b2 G',SegI P pl ops O ro G0 aa w0 n Q Qp pre a w (PO++J) a0 b2 G' B:=fun J a0 e hm=>by
    subst e;refine fC K be J PO a0 ad G I fun i l=>⟨fun U=>?_,fun U=>bef i (hm i l zOm)⟩
    have:=I.d i (bef i (hm i l zOm)) zOm;exact K.disj I.split (jh _ l) this
   have av:∀(PO lO:List Nat)(G:Gh)(st:St),SegI P pl ops O ro G0 aa w0 n Q Qp pre a w PO lO st G B->(∀ i d,i<ops.size->yn ops i=some d->jN ops k d=true->i∈PO)->∀ t,jN ops k t=true->(jC pl ops PO lO pre st).tm t=st.tm t:=by
    intro PO lO G st I aw t ht;refine uh ?_;rintro (⟨i,q1,q2,q3⟩|⟨i,q1,q2,q3⟩)
    .exact q2 (bef i ((K.du i k t (K.lt i (by rw[I.split];simp[q1])) hk q3).2 ht))
    .exact K.disj I.split q1 (aw i t (K.lt i (by rw[I.split];simp[q1])) q3 ht)
   rcases gZ pl ops k with af|af|af
   ·
    have:∃ PO lO st G,k∈PO/\SegI P pl ops O ro G0 aa w0 n Q Qp pre a w PO lO st G B:=by
     by_cases a5:k∈PO
     .exact ⟨PO,lO,ad,G,a5,I⟩
     .have an:k∈lO:=by
       have:=K.all k hk;rw[I.split]at this;exact(qP.1 this).resolve_left a5
      obtain⟨J,a0,rfl⟩:=List.append_of_mem an;have bg:=(K.ord (PO++J) a0 k (by rw[I.split];simp)).2.2 zOm;obtain⟨b2,G',I'⟩:=au (J++[k]) a0 zSp fun i l U=>by
       rcases qP.1 l with l|l
       .exact bg i (List.mem_append_right _ l) U
       .rw [qX]at l;subst l;exact absurd af U
      exact⟨_,_,b2,G',zSp,I'⟩
    clear I au;obtain⟨PO,lO,st,G,a5,I⟩:=this;cases hd:o.dst with
    |none=>have:=K.dn k hk (by rw[ae,hd]);omega
    |some d =>
    have aw:∀ i d,i<ops.size->yn ops i=some d->jN ops k d=true->i∈PO:=fun i d l bq hr=>by
     obtain⟨s,t,hs⟩:=List.append_of_mem a5;have:=(K.ord s (t++lO) k (by rw[I.split,hs];simp)).2.1 i d l bq hr;rw[hs];exact jh _ this
    obtain⟨b,hb,hT,hF⟩:=I.p k o d a5 b0 ho hd;have b3:yN ops (jC pl ops PO lO pre st) o=some b:=by
     rw[Uj fun t ht=>av PO lO G st I aw t (by simp only[jN,ho];exact ht)];exact hb
    have a7:=Ub I.rel b3;have ao:∀(G':Gh)(w':qe)(u:qf),Stp G (jC pl ops PO lO pre st).mu w G' (jC pl ops PO lO pre st).mu w'->VRel G' w'.heap (st.tm d) u->wpOpsIn (WF ro) 0 P ops QQ post (a.put o.dst u) w':=by
     intro G' w' u a1 hv;refine ih (pre++[k]) _ _ G' PO lO st B b1 ?_;have aq:=I.rel.put s0 a1 hv aj;refine⟨I.split,I.awp,fun i l U=>jh _ (I.s i l U),fun i l U=>?_,fun i o' d' l C=>I.p i o' d' l (fun hh=>C (jh _ hh)),fun i l C=>?_,fun i j l hj C ai=>?_,?_⟩
     .rcases qP.1 l with l|l
      .exact I.d i l U
      .rw [qX]at l;subst l;exact a5
     .have T:i≠k:=fun e=>K.disj I.split l (e ▸ a5)
      have a4:i∈pre:=by
       rcases qP.1 C with h|h
       .exact h
       .rw [qX]at h;exact absurd h T
      exact(I.al i l a4).step a1 fun d' a3=>ak i d' (K.lt i (by rw[I.split];simp[l])) T a3 u
     .have T:∀ i,i∈lO->i∈pre++[k]->i∈pre:=fun i l C=>by
       rcases qP.1 C with h|h
       .exact h
       .rw [qX]at h
        subst h;exact absurd a5 (K.disj I.split l)
      exact I.inj i j l hj (T i l C) (T j hj ai)
     .refine aq.weak rfl fun t=>?_
      by_cases hb:behind pl ops PO lO (pre++[k]) t
      .exact .inl (Yr hb)
      .right
       rw[uh hb];by_cases a6:o.dst=some t
       .rw [hd]at a6;cases a6
        simp[St.put,hd]
       .rw [jY a6,uh]
        rintro (⟨i,q1,q2,q3⟩|q)
        .refine hb (.inl ⟨i,q1,fun hh=>?_,q3⟩)
         rcases qP.1 hh with hh|hh
         .exact q2 hh
         .rw [qX]at hh;subst hh;exact a6 (by rw[<-ae];exact q3)
        .exact hb (.inr q)
    simp only[wpOpsIn,ho,a7];cases b with
    |false =>
     rw[if_neg zSp];exact⟨fun _ _=>trivial,ao G w z6 (Stp.refl I.rel.stp.sim) (by rw[hF rfl];exact .sc _ rfl)⟩
    |true =>
    have br:=hT rfl;rw[if_pos rfl];have bh:DS P pl o (jC pl ops PO lO pre st).ev (jC pl ops PO lO pre st).mu (st.tm d) (jC pl ops PO lO pre st).mu:=br.congr fun x hx=>by
     cases x with
     |tmp t =>
      show st.tm t=(jC pl ops PO lO pre st).tm t;exact(av PO lO G st I aw t (Uk ho hx)).symm
     |const v=>rfl
     |global g=>rfl
     |func f=>rfl
    refine Ua I.rel.stp.sim I.rel.ev bh ?_ ?_
    .rintro v' R G' w' u ⟨rfl,rfl⟩ a1 hv
     exact ao G' w' u a1 hv
    .intro _ _ _ _ _ hh;exact hh.elim
   ·
    have a5:k ∉ PO:=fun hh=>b0 (I.s k hh zOm)
    have an:k∈lO:=by
     have:=K.all k hk;rw[I.split]at this;exact(qP.1 this).resolve_left a5
    obtain⟨J,a0,rfl⟩:=List.append_of_mem an;have ag:=K.ord (PO++J) a0 k (by rw[I.split];simp);obtain⟨st,G,I⟩:=au J (k :: a0) rfl fun i l U=>ag.2.2 zOm i (List.mem_append_right _ l) U
    clear au;generalize cd:PO++J=a2 at *
    have hw:=I.awp;simp only[plan,af,awpT,ho]at hw;obtain⟨b,hb,hw,bs⟩:=hw;have b3:yN ops (jC pl ops a2 (k :: a0) pre st) o=some b:=by
     rw[Uj fun t ht=>av a2 (k :: a0) G st I ag.2.1 t (by simp only[jN,ho];exact ht)];exact hb
    have a7:=Ub I.rel b3;have ao:∀(v:AV)(m:Mu)(G':Gh)(w':qe)(u:qf),awpT P pl ops Q Qp (plan pl ops (a2++[k]) a0) (st.put o.dst v m)->(∀ i o' d',i∈a2->i ∉ pre->zY pl ops i=0->ops[i]?=some o'->o'.dst=some d'->DG P pl ops o' (st.put o.dst v m) d' m) ->
      Stp G st.mu w G' m w'->VRel G' w'.heap v u->wpOpsIn (WF ro) 0 P ops QQ post (a.put o.dst u) w':=by
     intro v m G' w' u b4 bt a1 hv;refine ih (pre++[k]) _ _ G' (a2++[k]) a0 (st.put o.dst v m) B b1 ?_;have aq:=I.rel.put s0 a1 hv aj;have b5:O=(a2++[k])++a0:=by rw[I.split];simp
     refine⟨b5,b4,fun i l U=>?_,fun i l U=>?_,fun i o' d' l C a8 a3=>?_,fun i l C=>?_,fun i j l hj C ai=>?_,?_⟩
     .rcases qP.1 l with l|l
      .exact jh _ (I.s i l U)
      .exact List.mem_append_right _ l
     .rcases qP.1 l with l|l
      .exact jh _ (I.d i l U)
      .exact List.mem_append_right _ l
     .have a4:i ∉ pre:=fun hh=>C (jh _ hh)
      have bi:i∈a2:=by
       rcases qP.1 l with l|l
       .exact l
       .exact absurd (List.mem_append_right _ l) C
      have U:zY pl ops i=0:=by
       by_cases hh:zY pl ops i=0
       .exact hh
       .exact absurd (I.s i bi hh) a4
      exact bt i o' d' bi a4 U a8 a3
     .have T:i≠k:=fun e=>by
       subst e;exact K.disj b5 l zSp
      have a4:i∈pre:=by
       rcases qP.1 C with h|h
       .exact h
       .rw [qX]at h;exact absurd h T
      exact(I.al i (q9 _ l) a4).step a1 fun d' a3=>ak i d' (K.lt i (by rw[I.split];simp[l])) T a3 u
     .have T:∀ i,i∈a0->i∈pre++[k]->i∈pre:=fun i l C=>by
       rcases qP.1 C with h|h
       .exact h
       .rw [qX]at h
        subst h;exact absurd (show i∈a2++[i] by simp) (K.disj b5 l)
      exact I.inj i j (q9 _ l) (q9 _ hj) (T i l C) (T j hj ai)
     .refine aq.weak rfl fun t=>?_
      by_cases hb:behind pl ops (a2++[k]) a0 (pre++[k]) t
      .exact .inl (Yr hb)
      .right
       rw[uh hb];by_cases a6:o.dst=some t
       .simp [St.put,a6]
       .rw [jY a6,jY a6,uh]
        rintro (⟨i,q1,q2,q3⟩|⟨i,q1,q2,q3⟩)
        .refine hb (.inl ⟨i,jh _ q1,fun hh=>?_,q3⟩)
         rcases qP.1 hh with hh|hh
         .exact q2 hh
         .rw [qX]at hh;subst hh;exact a6 (by rw[<-ae];exact q3)
        .rcases qz.1 q1 with rfl|q1
         .omega
         .exact hb (.inr ⟨i,q1,q2,q3⟩)
    simp only[wpOpsIn,ho,a7];cases b with
    |false =>
     rw[if_neg zSp];exact⟨fun _ _=>trivial,ao (.sc z6) st.mu G w z6 (bs rfl) (fun i o' d' l C U a8 a3=>fT K I.split l a8 ho a3 (I.p i o' d' l C a8 a3)) (Stp.refl I.rel.stp.sim) (.sc _ rfl)⟩
    |true =>
    rw[if_pos rfl];have hw:qH P pl false o.dst o.op st.ev st.mu (fun v m=>uQ P pl ops (if 1=0 then [] else pend pl ops a2 k) (st.put o.dst v m)/\awpT P pl ops Q Qp (plan pl ops (a2++[k]) a0) (st.put o.dst v m)) (fun v m=>True/\∀ tm,Qp v ⟨tm,m⟩):=hw rfl;have bu:=hw.congr (ev':=(jC pl ops a2 (k :: a0) pre st).ev) (fun x hx=>by
     cases x with
     |tmp t=>exact(av a2 (k :: a0) G st I ag.2.1 t (Uk ho hx)).symm
     |const v=>rfl
     |global g=>rfl
     |func f=>rfl)
    have cb:k∈k :: a0:=zo ..;refine Ua (mu:=(jC pl ops a2 (k :: a0) pre st).mu) I.rel.stp.sim I.rel.ev bu ?_ ?_
    .rintro v m G' w' u ⟨bj,b4⟩ a1 hv
     rw[if_neg zDe]at bj;refine ao v m G' w' u b4 (fun i o' d' l C U a8 a3=>?_) a1 hv;refine(fT K I.split l a8 ho a3 (I.p i o' d' l C a8 a3)).re (Xg a8 U) fun hm hb=>?_
     refine Xf bj (i:=i) (jg.2 ⟨l,?_⟩) a8 a3 hb;have b6:(jb ops k).testBit i=false:=by
      cases hq:(jb ops k).testBit i with
      |false=>rfl
      |true=>exact absurd (bef i hq) C
     simp[U,Xe,a8,hm,b6]
    .rintro v m G' w' u ⟨_,hp⟩ a1 hv
     refine bk v ⟨(jC pl ops a2 (k :: a0) pre st).tm,m⟩ a w' G' u (hp _) ?_ hv;exact I.rel.put (d:=none) s0 a1 (.any z6) rfl
   ·
    have a5:k ∉ PO:=fun hh=>b0 (I.s k hh zOm)
    have an:k∈lO:=by
     have:=K.all k hk;rw[I.split]at this;exact(qP.1 this).resolve_left a5
    obtain⟨ty,a9⟩:=qiR ho af;obtain⟨z,hz⟩:=ay k o ty ho a9;cases hd:o.dst with
    |none=>have:=K.dn k hk (by rw[ae,hd]);omega
    |some d =>
    have a7:Region.wanted o (yielded ops a.tmps)=true:=by unfold Region.wanted;rw[K.guards k o ho (by simp[ZO,a9])]
    simp only[wpOpsIn,ho,a7,if_true];refine qiS a9 hz fun zv bv=>?_
    subst bv;have a1:=fP I.rel.stp.sim (.cells zv.cells ty);have aq:=I.rel.put (v := .any) (u := .pointer (some ⟨w.heap.size,0,none⟩)) (d:=o.dst) s0 a1 (.any _) aj;refine ih (pre++[k]) _ _ G PO lO ad (fun i=>if i=k then w.heap.size else B i) b1 ?_;refine⟨I.split,I.awp,fun i l U=>jh _ (I.s i l U),fun i l U=>?_,fun i o' d' l C=>I.p i o' d' l (fun hh=>C (jh _ hh)),fun i l C=>?_,fun i j l hj C ai b7=>?_,?_⟩
    .rcases qP.1 l with l|l
     .exact I.d i l U
     .rw [qX]at l;subst l;exact absurd af U
    .by_cases T:i=k
     .subst T
      rw[if_pos rfl];refine⟨⟨o,ty,d,zv,ho,a9,hd,hz,?_,VL w _⟩,I.rel.stp.size,fun hl=>?_,fun l=>?_⟩
      .rw [hd]
       have bw:d<n:=by rw[hd]at aj;simpa[dOk] using aj
       have:d<a.tmps.size:=by rw[I.rel.size];exact bw
       simp[Act.put,qU,this]
      .have:=I.rel.stp.sim.livesize hl;omega
      .have:=I.rel.stp.sim.imm _ l;omega
     .rw [if_neg T]
      have a4:i∈pre:=by
       rcases qP.1 C with h|h
       .exact h
       .rw [qX]at h;exact absurd h T
      exact(I.al i l a4).step a1 fun d' a3=>ak i d' (K.lt i (by rw[I.split];simp[l])) T a3 _
    .have ah:∀ i,i∈pre++[k]->i≠k->i∈pre:=fun i C T=>by
      rcases qP.1 C with h|h
      .exact h
      .rw [qX]at h;exact absurd h T
     by_cases T:i=k
     .rw [if_pos T,if_neg (fun e=>b7 (T.trans e.symm))]
      have ar:j≠k:=fun e=>b7 (T.trans e.symm)
      have:=(I.al j hj (ah j ai ar)).lt;omega
     .rw [if_neg T]
      by_cases ar:j=k
      .rw [if_pos ar]
       have:=(I.al i l (ah i C T)).lt;omega
      .rw [if_neg ar]
       exact I.inj i j l hj (ah i C T) (ah j ai ar) b7
    .refine aq.weak rfl fun t=>?_
     by_cases hb:behind pl ops PO lO (pre++[k]) t
     .exact .inl (Yr hb)
     .right
      rw[uh hb];have a6:o.dst≠some t:=fun e=>hb (.inr ⟨k,an,af,by rw[ae];exact e⟩)
      rw[jY a6,uh];rintro (⟨i,q1,q2,q3⟩|q)
      .refine hb (.inl ⟨i,q1,fun hh=>?_,q3⟩)
       rcases qP.1 hh with hh|hh
       .exact q2 hh
       .rw [qX]at hh;subst hh;exact a6 (by rw[<-ae];exact q3)
      .exact hb (.inr q)
 refine key L [] a w G [] O st (fun _=>0) zSp ⟨rfl,h,fun i l=>absurd l qO,fun i l=>absurd l qO,fun i o d l=>absurd l qO,fun i _ l=>absurd l qO,fun i j _ _ l=>absurd l qO,?_⟩;refine r.weak rfl fun t=>?_
 grind [behind,Yr,uh]
def Xh(P:qc)(pl:Pol)(ops:Array yj)(Q:St->Prop)(g:AV->St->Prop)(st:St):Prop:=gX P pl ops Q g st\/SegA P pl ops Q g st
theorem qiU{pl ro C i I n}(J:Sim C i I.heap)(j:(ops.toList.all fun o=>dOk n o.dst)=true)
  {Q} {R} {QQ} (T:∀ st a w G,Q st->Rel ro C i I n G st a w->QQ .normal a w)
  (p:∀ v st a w G u,R v st->Rel ro C i I n G st a w->VRel G w.heap v u->QQ (.panic [{ v:=u,recovered:=false }]) a w) {st} {a} {w} {G} (r:Rel ro C i I n G st a w)
  (h:Xh P pl ops Q R st) (g) (t):wpOpsIn (WF ro) 0 P ops QQ (Region.schedule g ops t) a w:=by
 rcases h with h|h
 .exact qiN J j T p r h g t
 .exact qiT J j T p r h g t
end
end Go.Ev
namespace Go.Ev
open Go Go.RowKit
section
variable {c:Code}
inductive qW where
 |normal
 |exit (id:Nat)
 |ret
 |pan (v:AV)
def seqQ(n:St->Prop)(Q:qW->St->Prop):qW->St->Prop
 | .normal,U=>n U
 |e,U=>Q e U
def ui(id:Nat)(Q:qW->St->Prop):qW->St->Prop
 | .exit i,U=>if i=id then Q .normal U else Q (.exit i) U
 |e,U=>Q e U
def wE(I:Nat->St->Prop)(n:Nat)(Q:qW->St->Prop):qW->St->Prop
 | .normal,U=>∃ m,m<n/\I m U
 |e,U=>Q e U
def Frz(st j:St):Prop:=∃ g,j.mu=cutM (fun i=>!g i) st.mu 0/\∀ i,Gv st.mu g (st.tm i) (j.tm i)
inductive Fz:St->St->Prop where
 |refl (st:St):Fz st st
 |step {a b c:St} (f:Frz a b) (k:Fz b c):Fz a c
def FzQ(Q:qW->St->Prop)(e:qW)(st:St):Prop:=∃ g,Frz st g/\(match e with | .pan _=>g=st|_=>True)/\Q e g
def fzQ:Bool->(qW->St->Prop)->qW->St->Prop
 |true,Q=>FzQ Q
 |false,Q=>Q
def Stb(I:Mu->Prop):Prop:=∀ g,I g->I (g++[.dead])
def Yld(P:qc)(i:Nat)(rows:List (List AV))(I:Nat->Mu->Prop)(j:Mu->Prop):Prop:=
 ∀ k x g,rows[k]?=some x->I k g->V6 P i x g fun b R=>(b=true/\I (k+1) R)\/(b=false/\j R)
def jO(P:qc)(f:zV)(caps:List AV)(rows:List (List AV)):Prop:=yT P f /\
 ∀(i:Nat)(I:Nat->Mu->Prop)(g:Mu->Prop),(∀ k,Stb (I k))->Stb g->Yld P i rows I g->∀ j,I 0 j ->
  qC P f (.yl i :: caps) j fun e R=>∃ r,e = .ret r/\(I rows.length R\/g R)
def IterX(P:qc)(f:zV)(caps:List AV)(rows:List (List AV)):Prop:=yT P f /\
 ∀(i:Nat)(I:Nat->Mu->Prop)(g:Mu->Prop),Yld P i rows I g->∀ j,I 0 j ->
  qC P f (.yl i :: caps) j fun e R=>∃ r,e = .ret r/\(I rows.length R\/g R)
def g7(P:qc)(f:zV)(caps:List AV)(rows:List (List AV))(I:Nat->Mu->Prop)(g:qW->Mu->Prop):Prop:=(jO P f caps rows/\(∀ k,Stb (I k))/\∀ e,Stb (g e))\/IterX P f caps rows
def uR(g:Nat->AV):List Tmp->List AV->(Nat->AV)
 |t :: T,x :: p=>uR (fun i=>if i=t then x else g i) T p
 |_,_=>g
def asQ(n:St->Prop):qW->St->Prop
 | .normal,U=>n U
 |_,_=>False
def rndQ(I:Nat->Mu->Prop)(g:qW->Mu->Prop)(k:Nat):qW->St->Prop
 | .normal,U=>I (k+1) U.mu
 | .pan _,_=>False
 |e,U=>g e U.mu
def awp(P:qc)(pl:Pol):Code->(qW->St->Prop)->St->Prop
 | .skip,Q,U=>Q .normal U
 | .label _,Q,U=>Q .normal U
 | .region _ l o,Q,U=>(o=false/\awpS P pl false l l.toList (Q .normal) (fun v U=>Q (.pan v) U) U)\/(o=true/\∃ j,Fz U j/\Xh P pl l (Q .normal) (fun v U=>Q (.pan v) U) j)
 | .seq a b,Q,U=>awp P pl a (seqQ (awp P pl b Q) Q) U
 | .cond c a b,Q,U=>∃ t,U.ev c = .sc (.bool t)/\Br t (awp P pl a Q U) (awp P pl b Q U)
 | .block id i,Q,U=>awp P pl i (ui id Q) U
 | .loop i,Q,U=>∃(z:Bool) (I:Nat->St->Prop) (n:Nat) (j:St),Fz U j/\I n j/\∀ n U,I n U->awp P pl i (wE I n (fzQ z Q)) U
 | .exit id,Q,U=>Q (.exit id) U
 | .ret,Q,U=>Q .ret U
 | .scope i,Q,U=>awp P pl i Q U
 | .rangeFunc g T J i,Q,U=>∃(z:Bool) (gf:zV) (p:List AV) (rows:List (List AV)) (I:Nat->Mu->Prop) (R:qW->Mu->Prop),
   U.ev g = .fn (.func gf) [] p/\g7 P gf p rows I R/\I 0 (U.mu++[.dead]) /\
   (∀ k x C,rows[k]?=some x->I k C->x.length=T.size/\awp P pl J (asQ (fun U=>awp P pl i (rndQ I R k) U)) ⟨uR U.tm T.toList x,C⟩) /\
   (∀ C,I rows.length C->fzQ z Q .normal ⟨U.tm,C⟩)/\(∀ e C,R e C->fzQ z Q e ⟨U.tm,C⟩)
 |_,_,_=>False
def noRF:Code->Bool
 | .seq a b=>noRF a&&noRF b
 | .cond _ a b=>noRF a&&noRF b
 | .block _ b=>noRF b
 | .loop b=>noRF b
 | .scope b=>noRF b
 | .rangeFunc .. => false
 |_=>true
def dOkC(n:Nat):Code->Bool
 | .region _ l _=>l.toList.all fun o=>dOk n o.dst
 | .seq a b=>dOkC n a&&dOkC n b
 | .cond _ a b=>dOkC n a&&dOkC n b
 | .block _ b=>dOkC n b
 | .loop b=>dOkC n b
 | .scope b=>dOkC n b
 | .rangeFunc _ i g b=>(i.toList.all fun t=>decide (t<n))&&dOkC n g&&dOkC n b&&noRF g&&noRF b
 |_=>true
def ERel(G:Gh)(w:qe):qW->Exit->Prop
 | .normal,.normal=>True
 | .exit i,.exit j=>i=j
 | .ret,.ret=>True
 | .pan x,.panic chain=>∃ v,chain=[{ v,recovered:=false }]/\VRel G w.heap x v
 |_,_=>False
def Fit(ro:Ro)(j:Gh)(g:Mu)(l:qe)(n:Nat)(Q:qW->St->Prop)(QQ:Exit->Act->qe->Prop):Prop:=
 ∀ i e U a w G,Q i U->Rel ro j g l n G U a w->ERel G w i e->QQ e a w
theorem Rel.frz{ro o j t n G st l a w}(I:Sim o j t.heap)(r:Rel ro o j t n G st a w)(f:Frz st l):∃ G',Rel ro o j t n G' l a w:=by
 obtain⟨g,C,J⟩:=f;refine⟨Go.Ev.frz G g st.mu,fun i=>(J i).sound r.stp.sim (r.tm i),?_,r.size,?_,fun p P=>(Zc r.stp.sim g).vrel r.stp.sim (r.kp p P)⟩
 .intro h
  have:=(r.df h).step (Zc r.stp.sim g);rw[C];exact this
 rw[C];exact r.stp.trans I (Zc r.stp.sim g)
theorem Rel.fz{ro j g l n G st i a w}(o:Sim j g l.heap)(r:Rel ro j g l n G st a w)(f:Fz st i):∃ G',Rel ro j g l n G' i a w:=by
 induction f generalizing G with
 |refl st=>exact⟨G,r⟩
 |step f k p =>
  obtain⟨C,t⟩:=r.frz o f;exact p t
theorem Fit.fz{ro t g C n Q QQ}(I:Sim t g C.heap)(h:Fit ro t g C n Q QQ)(z):Fit ro t g C n (fzQ z Q) QQ:=by
 cases z with
 |false=>exact h
 |true =>
  intro P e U a w G j r p;obtain⟨R,f,J,j⟩:=j;cases P with
  |pan v =>
   simp only at J;subst J;exact h _ e _ a w G j r p
  |normal =>
   obtain⟨l,o⟩:=r.frz I f;exact h _ e _ a w l j o (by cases e<;>exact p)
  |ret =>
   obtain⟨l,o⟩:=r.frz I f;exact h _ e _ a w l j o (by cases e<;>exact p)
  |exit i =>
   obtain⟨l,o⟩:=r.frz I f;exact h _ e _ a w l j o (by cases e<;>exact p)
section
variable {F:Fence} {rm:Nat} {P:qc} {b:Frame} {a:Act} {k:List Item} {cs:List Frame} {w:qe} {Q:Exit->Act->qe->Prop}
theorem Ys:step P (lone (b.atR a (.code (.scope c) :: k)) cs w) = .next (lone (b.atR a (.code c :: .inScope c :: k)) cs w):=
 step_lone_go (by simp[stepG,stepG.exec,Frame.atR])
theorem qiV:step P (lone (b.atR a (.inScope c :: k)) cs w) = .next (lone (b.atR a k) cs w):=
 step_lone_go (by simp[stepG,stepG.exec,Frame.atR])
theorem g8(h:c.wpIn F rm P (Exit.noGoto Q) a w):(Code.scope c).wpIn F rm P Q a w:=by
 intro b k cs C I J;have o:(lone (b.atR a (.code (.scope c) :: k)) cs w).fenced P F:=fenced_calm I J rfl;obtain⟨e,i,j,p,g⟩:=h b (.inScope c :: k) cs C I J;cases e with
 |normal=>exact⟨.normal,i,j,p,.head o Ys (StepsIn.trans g (.one (fenced_calm I J rfl) qiV))⟩
 |exit id=>exact⟨.exit id,i,j,p,fun U R => .head o Ys (g.1 U (by simp[exitTo,R])),
   fun T R=>let ⟨t,h1,h2⟩:=g.2 T (by simp[exitTo,R]);⟨t,h1,.head o Ys h2⟩⟩
 |goto l=>exact p.elim
 |ret=>exact⟨_,i,j,p,.of_steps (.one o Ys) g⟩
 |panic ch=>exact⟨_,i,j,p,.of_steps (.one o Ys) g⟩
 |outgrown=>exact⟨_,i,j,p,.of_steps (.one o Ys) g⟩
end
end
section
variable {R:AEnd->Mu->Prop}{a:Act}{c:Code}{f:zV}{G:Gh}{args:List AV}{mu:Mu}{pl:Pol}{P:qc}{st:St}{w:qe}
def Xi(P:qc)(pl:Pol)(n:Nat)(c:Code):Prop:=∀{ro:Ro}{i:Gh}{g:Mu}{j:qe}(_:Sim i g j.heap)(Q:qW->St->Prop)(l:Exit->Act->qe->Prop)(U:St)(a:Act)(w:qe)(G:Gh),
  Fit ro i g j n Q l->Rel ro i g j n G U a w->dOkC n c=true->((ro.rd=none/\ro.mks=true)\/noRF c=true)->awp P pl c Q U->c.wpIn (WF ro) 0 P l a w
def JP:qW->Option Code
 | .ret=>some .ret
 | .exit id=>some (.exit id)
 |_=>none
def JJ(n:Nat)(ps:Array Tmp)(j body:Code)(p:Nat->AV)(o:Nat)(I:Nat->Mu->Prop)(k:Nat)(M:Mu):Prop:=
 ∃ fn tmps d,M[o]?=some (.lp { state := .ready,pending:=none,fn,tmps,params:=ps,assign:=j,body,defers:=d } p)/\tmps.size=n/\I k (M.set o .dead)
def JX(ps:Array Tmp)(j body:Code)(p:Nat->AV)(o:Nat)(t:qW->Mu->Prop)(M:Mu):Prop:=
 ∃ fn tmps d e c,M[o]?=some (.lp { state := .done,pending:=some c,fn,tmps,params:=ps,assign:=j,body,defers:=d } p)/\JP e=some c/\t e (M.set o .dead)
theorem g9{h}:∀(ts:List Tmp)(xs j o)(g:Array qf),xs.length=ts.length->j.length=ts.length ->
  (∀(k) x,xs[k]?=some x->VRel G h x (j.getD k z6))->(∀ i,VRel G h (o i) (g.getD i z6))->(∀ t,t∈ts->t<g.size) ->
  (∀ i,VRel G h (uR o ts xs i) (((ts.zip j).foldl (fun g (x:Tmp×qf)=>g.setIfInBounds x.1 x.2) g).getD i z6))/\((ts.zip j).foldl (fun g (x:Tmp×qf)=>g.setIfInBounds x.1 x.2) g).size=g.size
 | [],xs,j,o,g,_,_,_,p,_=>by
  refine⟨?_,rfl⟩;cases xs<;>exact p
 |t :: ts,x :: xs,v :: j,o,g,C,l,I,p,J=>by
  have hv:VRel G h x v:=by simpa using I 0 x rfl
  obtain⟨P,R⟩:=g9 ts xs j (fun i=>if i=t then x else o i) (g.setIfInBounds t v) (zUs C) (zUs l) (fun k y T=>by simpa using I (k+1) y (zUs T)) (fun i=>by
   by_cases U:i=t
   .simp_all
   .rw [if_neg U]
    have:(g.setIfInBounds t v).getD i z6=g.getD i z6:=by
     simp only[qU]
     grind
    rw[this];exact p i) (fun s hs=>by simpa using J s (zP1 hs))
  exact⟨P,zUs R⟩
 |_ :: _,[],_,_,_,C,_,_,_,_=>by simp at C
 |_ :: _,_ :: _,[],_,_,_,l,_,_,_=>by simp at l
theorem na{n}{ps:Array Tmp}{J body rows I Ix tm U}
  (h1:Xi P pl n J) (h2:Xi P pl n body) (an:dOkC n J=true) (ao:dOkC n body=true) (aq:noRF J=true) (ar:noRF body=true) (au:∀ t,t∈ps.toList->t<n)
  (a4:∀ k x mu,rows[k]?=some x->I k mu->x.length=ps.size/\awp P pl J (asQ (fun st=>awp P pl body (rndQ I Ix k) st)) ⟨uR tm ps.toList x,mu⟩) :
  Yld P U rows (JJ n ps J body tm U I) (JX ps J body tm U Ix):=by
 rintro k x M hx ⟨fn,tmps,d,hM,ag,hI⟩ G w vs s ra l a3 hb;obtain⟨o,ho,av⟩:=s.obj U _ l a3 hM zSp hb;obtain⟨rfl,ab⟩:=av;obtain⟨a9,ah⟩:=a4 k x _ hx hI;have ai:vs.size=ps.size:=by rw[ra.1,a9]
 refine⟨_,_,_,_,run_yield ho ai,?_⟩;refine roundIn_of_wpIn (F:=Fence.wide) trivial ?_;simp only;have aw:(ps.zip vs).foldl (fun tmps (x:Tmp×qf)=>tmps.setIfInBounds x.1 x.2) tmps=(ps.toList.zip vs.toList).foldl (fun tmps (x:Tmp×qf)=>tmps.setIfInBounds x.1 x.2) tmps:=by
  rw[<-Array.foldl_toList,Array.toList_zip]
 have b5:=g9 (G:=G) (h:=w.heap) ps.toList x vs.toList tm tmps (zUs a9) (zUs ai) (fun k y hy=>by simpa[qU,zH] using ra.2 k y hy) ab (fun t ht=>by rw[ag];exact au t ht);refine h1 (ro:=Ro.round l) (s.hid U) _ _ ⟨uR tm ps.toList x,M.set U .dead⟩ _ w G ?_ ⟨?_,fun h=>absurd h (by simp[Ro.round]),?_,Stp.refl (s.hid U),fun p hp=>by simp[Ro.round]at hp⟩ an (.inr aq) ah
 rotate_left
 .grind
 .grind
 intro ae e st1 a1 w1 G1 hq r1 he;cases ae with
 |normal =>
  cases e<;>simp only[ERel]at he
  obtain⟨ax,ay,T1⟩:=r1.stp.unhid s hM zSp hb;have aj:w1.heap[l]?=some (.loop { state := .ready,pending:=none,fn,tmps,params:=ps,assign:=J,body,defers:=d }):=by rw[ay];exact ho
  refine⟨_,run_beginRound aj rfl,?_⟩;simp only;have ak:U<st1.mu.length:=(ql.1 ax).1;have ad:G1.blk[U]?=some (l,a3):=r1.stp.le.blk _ _ hb;have al:l<w1.heap.size:=(yI.1 aj).1;have W1:=sW (w:=w1) (w':=w1.putObj l (.loop { state := .busy,pending:=none,fn,tmps,params:=ps,assign:=J,body,defers:=d })) T1.sim U _
   (.lp { state := .busy,pending:=none,fn,tmps,params:=ps,assign:=J,body,defers:=d } tm) l a3 _ (qJ ak) zSp zSp ad zSp (World.putObj_heap_same al)
   (fun b af=>wt af) rfl rfl rfl ⟨rfl,fun i=>((ab i).mono r1.stp.le (r1.stp.ext (s.hid U)))⟩
  simp only[List.set_set]at W1;have aa:∀ c:Cell,(st1.mu.set U c).set U .dead=st1.mu:=by
   intro c;rw[List.set_set];apply vg
   grind
  have s1:=W1.sim.hid U;rw[aa]at s1;refine h2 (ro:=Ro.round l) s1 _ _ st1 a1 _ G1 ?_ ⟨fun i=>(r1.tm i).mono (.refl G1) (W1.ext T1.sim),fun h=>absurd h (by simp[Ro.round]),r1.size,Stp.refl s1,fun p hp=>by simp[Ro.round]at hp⟩ ao (.inr ar) hq;intro az e2 st2 a2 w2 G2 a5 r2 a6;have b0:Stp G1 ((st1.mu.set U (.lp { state := .busy,pending:=none,fn,tmps,params:=ps,assign:=J,body,defers:=d } tm)).set U .dead) (w1.putObj l (.loop { state := .busy,pending:=none,fn,tmps,params:=ps,assign:=J,body,defers:=d })) G2 st2.mu w2:=by
   rw[aa];exact r2.stp
  obtain⟨b1,b2,T2⟩:=b0.unhid W1.sim (qJ ak) zSp ad;have a7:w2.heap[l]?=some (.loop { state := .busy,pending:=none,fn,tmps,params:=ps,assign:=J,body,defers:=d }):=by rw[b2];exact World.putObj_heap_same al
  have a8:U<st2.mu.length:=(ql.1 b1).1;have b3:G2.blk[U]?=some (l,a3):=T2.le.blk _ _ ad;have b4:l<w2.heap.size:=(yI.1 a7).1;have T:Stp G M w G2 (st2.mu.set U (.lp { state := .busy,pending:=none,fn,tmps,params:=ps,assign:=J,body,defers:=d } tm)) w2:=(T1.trans s W1).trans s T2;have a0:∀ c:Cell,(st2.mu.set U c).set U .dead=st2.mu:=by
   intro c;rw[List.set_set];apply vg
   grind
  have fin:∀(R:Option Code),Stp G M w G2 (st2.mu.set U (.lp { state:=if R.isNone then .ready else .done,pending:=R,fn,tmps,params:=ps,assign:=J,body,defers:=d } tm))
    (w2.putObj l (.loop { state:=if R.isNone then .ready else .done,pending:=R,fn,tmps,params:=ps,assign:=J,body,defers:=d })):=by
   intro R;have W2:=sW (w:=w2) (w':=w2.putObj l (.loop { state:=if R.isNone then .ready else .done,pending:=R,fn,tmps,params:=ps,assign:=J,body,defers:=d })) T2.sim U _
    (.lp { state:=if R.isNone then .ready else .done,pending:=R,fn,tmps,params:=ps,assign:=J,body,defers:=d } tm) l a3 _ (qJ a8) zSp zSp b3 zSp (World.putObj_heap_same b4)
    (fun b af=>wt af) rfl rfl rfl ⟨rfl,fun i=>((ab i).mono T.le (T.ext s))⟩
   simp only[List.set_set]at W2;exact T.trans s W2
  cases az with
  |normal =>
   cases e2<;>simp only[ERel]at a6
   refine⟨_,_,run_endRound none a7,true,G2,_,rfl,fin none,.inl ⟨rfl,fn,tmps,d,qJ a8,ag,?_⟩⟩;rw[a0];exact a5
  |ret =>
   cases e2<;>simp only[ERel]at a6
   refine⟨_,_,run_endRound (some .ret) a7,false,G2,_,rfl,fin (some .ret),.inr ⟨rfl,fn,tmps,d,.ret,.ret,qJ a8,rfl,?_⟩⟩;rw[a0];exact a5
  |exit id =>
   cases e2<;>simp only[ERel]at a6
   subst a6;refine⟨_,_,run_endRound (some (.exit id)) a7,false,G2,_,rfl,fin (some (.exit id)),.inr ⟨rfl,fn,tmps,d,.exit id,.exit id,qJ a8,rfl,?_⟩⟩;rw[a0];exact a5
  |pan v=>exact a5.elim
 |ret=>exact hq.elim
 |exit id=>exact hq.elim
 |pan v=>exact hq.elim
theorem Ul{n}:∀ c,Xi P pl n c:=by
  intro c;induction c with
  |skip=>intro ro G0 a0 w0 s0 Q QQ U a w G hf r _ _ h;exact wpIn_skip (hf .normal .normal U a w G h r trivial)
  |label l=>intro ro G0 a0 w0 s0 Q QQ U a w G hf r _ _ h;exact wpIn_label (hf .normal .normal U a w G h r trivial)
  |exit id=>intro ro G0 a0 w0 s0 Q QQ U a w G hf r _ _ h;exact wpIn_exit (hf (.exit id) (.exit id) U a w G h r rfl)
  |ret=>intro ro G0 a0 w0 s0 Q QQ U a w G hf r _ _ h;exact wpIn_ret (hf .ret .ret U a w G h r trivial)
  |region id cw cu =>
    intro ro G0 a0 w0 s0 Q QQ U a w G hf r hd hn h;rcases h with ⟨rfl,h2⟩|⟨rfl,h2⟩
    · refine wpIn_region_list (Uc s0 (fun U a w G hq r=>hf .normal .normal U a w G hq r trivial) (fun v U a w G u hq r hv=>hf (.pan v) (.panic _) U a w G hq r ⟨u,rfl,hv⟩) _ U a w G r hd h2)
    · obtain⟨st1,ay,h2⟩:=h2
      obtain⟨G1,r1⟩:=r.fz s0 ay;refine wpIn_region_draw fun t=>?_
      exact qiU s0 hd (fun U a w G hq r=>hf .normal .normal U a w G hq r trivial) (fun v U a w G u hq r hv=>hf (.pan v) (.panic _) U a w G hq r ⟨u,rfl,hv⟩) (r1.drew s0) h2 _ t
  |seq x y az b0 =>
    intro ro G0 a0 w0 s0 Q QQ U a w G hf r hd hn h;simp only[dOkC,qD]at hd;simp only[noRF,qD]at hn;refine wpIn_seq (az s0 _ _ U a w G ?_ r hd.1 (hn.imp id And.left) h);intro ae e T a' w' G' hq r' he;cases ae<;>cases e<;>simp only[ERel]at he
    · exact b0 s0 Q QQ T a' w' G' hf r' hd.2 (hn.imp id And.right) hq
    · exact hf (.exit _) (.exit _) T a' w' G' hq r' he
    · exact hf .ret .ret T a' w' G' hq r' trivial
    · exact hf (.pan _) (.panic _) T a' w' G' hq r' he
  |cond b1 x y az b0 =>
    intro ro G0 a0 w0 s0 Q QQ U a w G hf r hd hn h;simp only[dOkC,qD]at hd;simp only[noRF,qD]at hn;obtain⟨t,ht,h1,h2⟩:=h;have rc:=r.ev b1;rw[ht]at rc;have ec:a.eval b1 = .bool t:=by generalize a.eval b1=v at rc;cases rc;rfl
    refine wpIn_cond_split ec (fun e=>az s0 Q QQ U a w G hf r hd.1 (hn.imp id And.left) (h1 e)) (fun e=>b0 s0 Q QQ U a w G hf r hd.2 (hn.imp id And.right) (h2 e))
  |block id J ih =>
    intro ro G0 a0 w0 s0 Q QQ U a w G hf r hd hn h;refine wpIn_block (ih s0 _ _ U a w G ?_ r hd hn h);intro ae e T a' w' G' hq r' he;cases ae<;>cases e<;>simp only[ERel]at he
    · exact hf .normal .normal T a' w' G' hq r' trivial
    · subst he
      simp only[ui]at hq;simp only[Exit.inBlock];split at hq
      · rename_i hid;rw[if_pos hid];exact hf .normal .normal T a' w' G' hq r' trivial
      · rename_i hid;rw[if_neg hid];exact hf (.exit _) (.exit _) T a' w' G' hq r' rfl
    · exact hf .ret .ret T a' w' G' hq r' trivial
    · exact hf (.pan _) (.panic _) T a' w' G' hq r' he
  |loop J ih =>
    intro ro G0 a0 w0 s0 Q QQ U a w G hf r hd hn h;obtain⟨z,I,n0,st1,ay,hI,a3⟩:=h;obtain⟨G1,r1⟩:=r.fz s0 ay;have hf:=hf.fz s0 z;refine wpIn_loop_ghost (fun k a w=>∃ U G,I k U/\Rel ro G0 a0 w0 n G U a w) n0 ⟨st1,G1,hI,r1⟩ ?_;intro k a' w' ⟨T,G',bu,r'⟩;refine ih s0 _ _ T a' w' G' ?_ r' hd hn (a3 k T bu);intro ae e st2 a2 w2 G2 hq r2 he;cases ae<;>cases e<;>simp only[ERel]at he
    · obtain⟨m,hm,bv⟩:=hq
      exact⟨m,hm,st2,G2,bv,r2⟩
    · exact hf (.exit _) (.exit _) st2 a2 w2 G2 hq r2 he
    · exact hf .ret .ret st2 a2 w2 G2 hq r2 trivial
    · exact hf (.pan _) (.panic _) st2 a2 w2 G2 hq r2 he
  |scope J ih =>
    intro ro G0 a0 w0 s0 Q QQ U a w G hf r hd hn h;refine g8 (ih s0 Q _ U a w G ?_ r hd hn h);intro ae e T a' w' G' hq r' he;cases ae<;>cases e<;>simp only[ERel]at he
    · exact hf .normal .normal T a' w' G' hq r' trivial
    · exact hf (.exit _) (.exit _) T a' w' G' hq r' he
    · exact hf .ret .ret T a' w' G' hq r' trivial
    · exact hf (.pan _) (.panic _) T a' w' G' hq r' he
  |rangeFunc g ps a7 J b9 bb =>
    intro ro G0 a0 w0 s0 Q QQ U a w G hf r hd hn h;have b2:ro.rd=none/\ro.mks=true:=by
      rcases hn with hn|hn
      · exact hn
      · simp[noRF]at hn
    simp only[dOkC,qD,qY,decide_eq_true_eq]at hd;obtain⟨⟨⟨⟨bc,be⟩,bg⟩,bh⟩,bi⟩:=hd;obtain⟨z,gf,aw,rows,I,Ix,hg,ag,h0,a3,bj,ai⟩:=h;have hf:=hf.fz s0 z;refine wpIn_rangeFunc fun fn _=>?_
    have eg:=r.ev g;rw[hg]at eg;generalize hq:a.eval g=gv at eg;cases eg with
    |fn _ _ _ bw ah ca hm hv hw =>
    have e0:bw=#[]:=Array.eq_empty_of_size_eq_zero (zUs ca);subst e0;have bk:yT P gf:=by rcases ag with h|h;exact h.1.1;exact h.1
    generalize aj:(Loop.mk .ready none fn a.tmps ps a7 J w.heap.size)=C;have a4:∃ w1,w1=(w.alloc (.deferred (some []))).alloc (.loop C):=⟨_,rfl⟩;obtain⟨w1,a4⟩:=a4;have cv:w1.heap.size=w.heap.size+2:=by rw[a4];simp
    have ak:∀ b,b<w.heap.size->w1.heap[b]?=w.heap[b]?:=by
      intro b hb;rw[a4,Below.heap_alloc _ _ b zSo,Below.heap_alloc _ _ b hb]
    have cb:w1.heap[w.heap.size]?=some (.deferred (some [])):=by
      rw[a4,Below.heap_alloc _ _ _ zSp];exact World.alloc_heap_new w _
    have cc:w1.heap[w.heap.size+1]?=some (.loop C):=by
      rw[a4];have:=World.alloc_heap_new (w.alloc (.deferred (some []))) (.loop C);simpa using this
    have sG:=r.stp.sim;have a8:∀ b,Live G U.mu b->b<w.heap.size:=fun b hb=>sG.livesize hb
    have a5:∃ G1:Gh,G1=⟨G.imm,G.blk++[(w.heap.size+1,0)]⟩:=⟨_,rfl⟩;obtain⟨G1,a5⟩:=a5;have al:G.le G1:=by
      rw[a5];exact⟨fun _ h=>h,fun i x hx=>by simp only;rw[qL (ql.1 hx).1];exact hx⟩
    have ad:Ext G w.heap w1.heap:=⟨zOm,fun b hb=>ak b (sG.imm b hb)⟩;have a9:G1.blk[U.mu.length]?=some (w.heap.size+1,0):=by rw[a5,<-sG.len];simp
    have a1:∀(j:Nat)(c:Cell)(bt:Nat×Nat),(U.mu++[Cell.lp C U.tm])[j]?=some c->G1.blk[j]?=some bt->(U.mu[j]?=some c/\G.blk[j]?=some bt)\/(j=U.mu.length/\c = .lp C U.tm/\bt=(w.heap.size+1,0)):=by
      intro j c bt hj aa;by_cases bl:j<U.mu.length
      · rw[qL bl]at hj
        rw[a5]at aa;simp only at aa;rw[qL (by rw[sG.len];exact bl)]at aa;exact .inl ⟨hj,aa⟩
      · have cd:=(ql.1 hj).1
        simp at cd;have:j=U.mu.length:=zOm;subst this;rw[a9]at aa;simp at hj aa;exact .inr ⟨rfl,hj.symm,aa.symm⟩
    have s1:Sim G1 (U.mu++[Cell.lp C U.tm]) w1.heap:=by
      refine⟨by rw[a5];simp[sG.len],fun b hb=>?_,?_,?_,?_,sG.tab.mono al.imm ad.keep⟩
      · rw[a5]at hb;have:=sG.imm b hb;omega
      · intro j c b3 an g1 g2 g3
        rcases a1 j c _ g1 g3 with ⟨q1,q2⟩|⟨rfl,rfl,q⟩
        · obtain⟨o,k1,k2⟩:=sG.obj j c b3 an q1 g2 q2
          exact⟨o,by rw[ak _ (yI.1 k1).1];exact k1,k2.mono al ad⟩
        · obtain⟨rfl,rfl⟩:=Prod.mk.inj q
          refine⟨_,cc,rfl,fun i=>?_⟩;rw[<-aj];exact(r.tm i).mono al ad
      · intro j c b3 an g1 g2 g3
        rcases a1 j c _ g1 g3 with ⟨q1,q2⟩|⟨rfl,rfl,q⟩
        · have:=sG.live j c b3 an q1 g2 q2
          rw[a5];exact this
        · obtain⟨rfl,rfl⟩:=Prod.mk.inj q
          rw[a5];intro bm;have:=sG.imm _ bm;omega
      · intro i j ci cj b ti tj g1 g2 g3 g4 g5 g6
        rcases a1 i ci _ g1 g5 with ⟨q1,q2⟩|⟨rfl,rfl,q⟩<;>rcases a1 j cj _ g2 g6 with ⟨p1,p2⟩|⟨rfl,rfl,p⟩
        · exact sG.inj i j ci cj b ti tj q1 p1 g3 g4 q2 p2
        · obtain⟨rfl,rfl⟩:=Prod.mk.inj p
          have:=a8 _ ⟨i,ci,ti,q1,g3,q2⟩;omega
        · obtain⟨rfl,rfl⟩:=Prod.mk.inj q
          have:=a8 _ ⟨j,cj,tj,p1,g4,p2⟩;omega
        · rfl
    have af:∀ b,Live G1 (U.mu++[Cell.lp C U.tm]) b->Live G U.mu b\/b=w.heap.size+1:=by
      rintro b ⟨j,c,an,g1,g2,g3⟩;rcases a1 j c _ g1 g3 with ⟨q1,q2⟩|⟨rfl,rfl,q⟩
      · exact .inl ⟨j,c,an,q1,g2,q2⟩
      · exact .inr (Prod.mk.inj q).1
    have t1:Stp G U.mu w G1 (U.mu++[Cell.lp C U.tm]) w1:=by
      refine⟨al,s1,fun b hb _=>ak b hb,zOm,fun b hb=>?_,fun b hb=>?_,by rw[a4];rfl,by rw[a4];rfl,by rw[a4];rfl,by rw[a4];exact qn _⟩
      · rcases af b hb with h|h
        · exact .inl h
        · exact .inr zOm
      · rw[a5]at hb;exact .inl hb
    have cf:Mk G1 (U.mu++[Cell.lp C U.tm]) w1.heap w.heap.size:=by
      refine⟨cb,fun hb=>?_,fun hb=>?_⟩
      · rcases af _ hb with h|h
        · have:=a8 _ h;omega
        · omega
      · rw[a5]at hb;have:=sG.imm _ hb;omega
    have bn:JJ n ps a7 J U.tm U.mu.length I 0 (U.mu++[Cell.lp C U.tm]):=by
      refine⟨fn,a.tmps,w.heap.size,by rw[aj];simp,r.size,?_⟩;have:(U.mu++[Cell.lp C U.tm]).set U.mu.length .dead=U.mu++[.dead]:=zSp;rw[this];exact h0
    have bo:∀(X:Mu->Prop)(M:Mu)(c:Cell),Stb X->M[U.mu.length]?=some c->X (M.set U.mu.length .dead)->X ((M++[Cell.dead]).set U.mu.length Cell.dead):=by
      intro X M c hX hM hx;rw[List.set_append_left _ _ (ql.1 hM).1];exact hX _ hx
    have cg:qC P gf (.yl U.mu.length :: aw) (U.mu++[Cell.lp C U.tm]) fun e R=>∃ r,e = .ret r/\(JJ n ps a7 J U.tm U.mu.length I rows.length R\/JX ps a7 J U.tm U.mu.length Ix R):=by
      rcases ag with ⟨ag,hS,ch⟩|ag
      rotate_left
      · exact ag.2 U.mu.length _ _ (na b9 bb be bg bh bi bc a3) _ bn
      exact ag.2 U.mu.length (JJ n ps a7 J U.tm U.mu.length I) (JX ps a7 J U.tm U.mu.length Ix)
       (fun k M ⟨f',t',d',q1,q2,q3⟩=>⟨f',t',d',by rw[qL (ql.1 q1).1];exact q1,q2,bo _ M _ (hS k) q1 q3⟩)
       (fun M ⟨f',t',d',e',c',q1,q2,q3⟩=>⟨f',t',d',e',c',by rw[qL (ql.1 q1).1];exact q1,q2,bo _ M _ (ch e') q1 q3⟩)
       (na b9 bb be bg bh bi bc a3) _ bn
    have b4:zX G1 w1.heap (.yl U.mu.length :: aw) (#[Value.func (.yield (w.heap.size+1)) #[] #[]]++ah):=by
      refine⟨by simp[hm];omega,fun k x hx=>?_⟩;cases k with
      |zero =>
        simp at hx;subst hx;have e:(#[Value.func (.yield (w.heap.size+1)) #[] #[]]++ah).getD 0 z6=Value.func (.yield (w.heap.size+1)) #[] #[]:=by
          simp only[qU];rw[Array.getElem?_append_left zSp];simp
        rw[e];exact VRel.yl _ _ 0 a9
      |succ k =>
        have:=(hw k x (zUs hx)).mono al ad;have e:(#[Value.func (.yield (w.heap.size+1)) #[] #[]]++ah).getD (k+1) z6=ah.getD k z6:=by
          simp only[qU];rw[Array.getElem?_append_right zSp];simp
        rw[e];exact this
    refine⟨w.heap.size+1,[mkOf w.heap.size],w1,⟨.fn (.func gf) ah,#[Value.func (.yield (w.heap.size+1)) #[] #[]]⟩,w1,gf,#[Value.func (.yield (w.heap.size+1)) #[] #[]]++ah,w1,?_,?_,fun _ _=>trivial,?_,fun h=>by simp[WF,Fence.wide]at h,?_⟩
    · rw[a4,<-aj,show (WF ro).round=none from b2.1];exact run_enterLoop_outer fn a.tmps ps a7 J
    · simp only[resolve,zJ,hq,Deferred.ofValue]
      simp[Act.eval]
    · simp only[invoke]
      exact bk _ w1
    · have ar:=cg.2 G1 w1 _ s1 b4
      have:=(callsIn_wide (n:=0)).2 (ar.mono (R':=rangePost (WF ro) 0 P (w.heap.size+1) QQ { a with defers:=mkOf w.heap.size :: a.defers }) ?_)
      · exact this
      rintro e w3 ⟨G3,a6,t3,bq⟩;have hR:(∃ v,e = .returned v)/\(JJ n ps a7 J U.tm U.mu.length I rows.length a6\/JX ps a7 J U.tm U.mu.length Ix a6):=by
        rcases bq with ⟨rv,v,⟨ck,he,hR⟩,rfl,cx⟩|⟨rv,v,⟨ck,he,_⟩,_⟩
        · exact⟨⟨v,rfl⟩,hR⟩
        · exact absurd he zSp
      clear bq;obtain⟨⟨v,rfl⟩,hR⟩:=hR;have tt:Stp G U.mu w G3 a6 w3:=t1.trans sG t3;have cl:Stp G0 a0 w0 G3 a6 w3:=r.stp.trans s0 tt;have b5:G3.blk[U.mu.length]?=some (w.heap.size+1,0):=t3.le.blk _ _ a9
      have fin:∀(rc:Loop)(e:qW)(ee:Exit),a6[U.mu.length]?=some (.lp rc U.tm)->fzQ z Q e ⟨U.tm,a6.set U.mu.length .dead⟩->(∀ G w,ERel G w e ee)->QQ ee { a with defers:=mkOf w.heap.size :: a.defers } (w3.putObj (w.heap.size+1) (.loop { rc with state := .exhausted })):=by
        intro rc e ee av cm cn;have cp:=t3.sim.hid_not av zSp b5;have br:=t3.sim.live _ _ _ _ av zSp b5;have td:Stp G0 a0 w0 G3 (a6.set U.mu.length .dead) w3:=cl.trans s0 (Stp.drop t3.sim U.mu.length);have b6:w0.heap.size<=w.heap.size:=r.stp.size;have tp:Stp G0 a0 w0 G3 (a6.set U.mu.length .dead) (w3.putObj (w.heap.size+1) (.loop { rc with state := .exhausted })):=by
          refine⟨td.le,td.sim.putOther cp br,fun b b7 hl=>?_,by simpa using td.size,td.live,td.inew,td.tape,td.os,td.output,td.drawn⟩;rw[wt zOm];exact td.keep b b7 hl
        have ao:Ext G3 w3.heap (w3.putObj (w.heap.size+1) (.loop { rc with state := .exhausted })).heap:=
          ⟨zSp,fun b b7=>wt (fun (e:b=_)=>br (e ▸ b7))⟩
        have bs:∀ D,Mk G1 (U.mu++[Cell.lp C U.tm]) w1.heap D->D≠w.heap.size+1->Mk G3 (a6.set U.mu.length .dead) (w3.putObj (w.heap.size+1) (.loop { rc with state := .exhausted })).heap D:=by
          intro D m cq;have m3:=m.step t3;exact⟨by rw[wt cq];exact m3.obj,fun h=>m3.nlive h.hid,m3.nimm⟩
        refine hf e ee ⟨U.tm,a6.set U.mu.length .dead⟩ _ _ G3 cm ⟨fun i=>?_,fun _=>?_,r.size,tp,fun p hp=>(tt.vrel sG (r.kp p hp)).mono (.refl G3) ao⟩ (cn _ _)
        · exact(tt.vrel sG (r.tm i)).mono (.refl G3) ao
        · obtain⟨Ds,⟨cr,_⟩,cs,b8⟩:=r.df b2.1
          have ax:∀ D,D∈Ds->D<w.heap.size:=fun D hD=>(yI.1 (b8 D hD).2.obj).1
          refine⟨w.heap.size :: Ds,⟨zP1 cr,fun h=>by rw[b2.2]at h;cases h⟩,ve.2 ⟨fun h=>absurd (ax _ h) zOm,cs⟩,fun D hD=>?_⟩;rcases qz.1 hD with rfl|hD
          · exact⟨b6,bs _ cf zOm⟩
          · exact⟨(b8 D hD).1,bs _ ((b8 D hD).2.step t1) (zW1 (ax D hD))⟩
      have aq:∀(rc:Loop),a6[U.mu.length]?=some (.lp rc U.tm)->w3.heap[w.heap.size+1]?=some (.loop rc):=by
        intro rc av;obtain⟨o,ho,ct⟩:=t3.sim.obj _ _ _ _ av zSp b5;obtain⟨rfl,_⟩:=ct;exact ho
      rcases hR with ⟨f',t',d',q1,q2,q3⟩|⟨f',t',d',e',c',q1,q2,q3⟩
      · refine⟨_,_,run_endLoop (aq _ q1) zSp,?_⟩
        exact fin _ .normal .normal q1 (bj _ q3) (fun _ _=>trivial)
      · refine⟨_,_,run_endLoop (aq _ q1) zSp,?_⟩
        cases e' with
        |ret =>
          simp only[JP,qs]at q2;subst q2;exact wpIn_ret (fin _ .ret .ret q1 (ai _ _ q3) (fun _ _=>trivial))
        |exit id =>
          simp only[JP,qs]at q2;subst q2;exact wpIn_exit (fin _ (.exit id) (.exit id) q1 (ai _ _ q3) (fun _ _=>rfl))
        |normal=>simp[JP]at q2
        |pan v=>simp[JP]at q2
  |goto l=>intro ro G0 a0 w0 s0 Q QQ U a w G hf r hd hn h;exact h.elim
  |refuse cy=>intro ro G0 a0 w0 s0 Q QQ U a w G hf r hd hn h;exact h.elim
def resV(P:qc)(st:St):ResultVar->Option AV
 | .tmp t=>some (st.tm t)
 | .cell a t=>Qd P st.mu t (st.tm a)
def resL(P:qc)(st:St):List ResultVar->Option (List AV)
 | []=>some []
 |r :: g=>match resV P st r,resL P st g with|some x,some p=>some (x :: p)|_,_=>none
def jZ(P:qc)(st:St):List ResultVar->Option AV
 | [r]=>resV P st r
 |g=>(resL P st g).map .tup
def JQ(g:Array qf):ResultVar->Sem qf
 | .tmp t=>pure (g.getD t z6)
 | .cell a t=>do loadVar t (<-asAddr (g.getD a z6))
theorem ng{ro i g j n}(r:Rel ro i g j n G st a w){x z}(h:resV P st x=some z) :
  ∃ u,(JQ a.tmps x).run P w = .ok u w/\VRel G w.heap z u:=by
 cases x with
 |tmp t=>simp only[resV,qs]at h;subst h;exact⟨_,rfl,r.tm t⟩
 |cell l t =>
  obtain⟨b,u,o,p,C⟩:=pB (P:=P) r.stp.sim (r.tm l) h
  grind [JQ,asAddr,qQ,zJ,qS]
theorem qiW{ro o i p n}(r:Rel ro o i p n G st a w):∀ l zs,resL P st l=some zs ->
  ∃ g,(l.mapM (JQ a.tmps)).run P w = .ok g w/\g.length=zs.length/\g.length=l.length/\∀(k:Nat) z,zs[k]?=some z->∃ u,g[k]?=some u/\VRel G w.heap z u:=by
 intro l;induction l with
 |nil=>intro zs h;simp only[resL,qs]at h;simp_all
 |cons x l t =>
  intro zs h;simp only[resL]at h;split at h
  .rename_i z j C I
   simp only[qs]at h;subst h;obtain⟨u,g1,U⟩:=ng r C;obtain⟨g,J,R,T,k4⟩:=t j I;refine⟨u :: g,by simp[List.mapM_cons,g1,J],zP1 R,zP1 T,fun k z' hz=>?_⟩
   grind
  grind
theorem ZP{fn ro C j I n}(r:Rel ro C j I n G st a w){z}(h:jZ P st fn.results.toList=some z) :
  ∃ u,(results fn a.tmps).run P w = .ok u w/\VRel G w.heap z u:=by
 have i:∀ g:List qf,(fn.results.toList.mapM (JQ a.tmps)).run P w = .ok g w->(results fn a.tmps).run P w = .ok (if h:g.toArray.size=1 then g.toArray[0] else .tuple g.toArray) w:=by
  intro g l;have e:results fn a.tmps=(do let o <-fn.results.mapM (JQ a.tmps);pure (if h:o.size=1 then o[0] else .tuple o)):=rfl;rw[e];simp only[Array.mapM_eq_mapM_toList,qQ,Sem.run_map,l,qS,zJ]
 unfold jZ at h;split at h
 .rename_i x hx
  obtain⟨u,h1,h2⟩:=ng r h;simp_all
 .rename_i rs J
  cases p:resL P st fn.results.toList with
  |none=>simp[p]at h
  |some zs =>
   simp only[p,zh,qs]at h;subst h;obtain⟨g,R,T,k3,U⟩:=qiW r _ _ p;have t:g.toArray.size≠1:=by
    grind [List.size_toArray,List.length_eq_one_iff]
   refine⟨_,i g R,?_⟩;rw[dif_neg t];refine .tup _ _ (zP1 T) (fun k z hz=>?_);obtain⟨u,hu,hv⟩:=U k z hz;have:g.toArray.getD k z6=u:=by simp[qU,hu]
   rw[this];exact hv
def st0(args:List AV)(mu:Mu):St:=⟨fun i=>(args[i]?).getD (.sc z6),mu⟩
def wF(P:qc)(rs:List ResultVar)(R:AEnd->Mu->Prop):qW->St->Prop
 | .normal,U | .ret,U=>OptK (jZ P U rs) fun r=>R (.ret r) U.mu
 | .pan v,U=>R (.pan v) U.mu
 | .exit _,_=>False
theorem Rel.left{ro}(o:ro.rd=none){C j I n G st a w}(r:Rel ro C j I n G st a w):∃(g:List Nat),a.defers=g.map mkOf++ro.dl/\g.Nodup/\(∀ D,D∈g->w.heap[D]?=some (.deferred (some []))) /\
  Rel ro C j I n G st { a with defers:=ro.dl } (wB g w)/\∀ x v,VRel G w.heap x v->VRel G (wB g w).heap x v:=by
 obtain⟨g,⟨R,_⟩,J,P⟩:=r.df o;obtain⟨T,t⟩:=gL g w J P r.stp;exact⟨g,R,J,fun D U=>(P D U).2.obj,⟨fun i=>(r.tm i).mono (.refl G) t,fun _=>Dfs.nil _ _ _ _ _ _,r.size,T,fun p hp=>(r.kp p hp).mono (.refl G) t⟩,fun x v h=>h.mono (.refl G) t⟩
theorem fM{ro}{fn:Func}{g}(s:Sim G mu w.heap)(l:zX G w.heap args g)(P:args.length<=fn.ntmps)(o:ro.dl=[]:=by rfl)(t:ro.kp=[]:=by rfl) :
  Rel ro G mu w fn.ntmps G (st0 args mu) { tmps:=g++Array.replicate (fn.ntmps-g.size) z6,defers:=[] } w:=by
 have R:g.size<=fn.ntmps:=by rw[l.1];exact P
 refine⟨fun i=>?_,fun _=>⟨[],⟨zP1 o,fun _=>rfl⟩,List.nodup_nil,zSp⟩,zSo,Stp.refl s,fun p I=>by rw[t]at I;simp at I⟩;simp only[st0];by_cases T:i<args.length
 .have J:args[i]?=some args[i]:=by simp[T]
  have e:(g++Array.replicate (fn.ntmps-g.size) z6).getD i z6=g.getD i z6:=by
   simp only[qU]
   grind
  rw[J,e];exact l.2 i _ J
 .rw [List.getElem?_eq_none zOm]
  have e:(g++Array.replicate (fn.ntmps-g.size) z6).getD i z6=z6:=by
   simp only[qU];rw[Array.getElem?_append_right (by rw[l.1];omega),Array.getElem?_replicate];split<;>rfl
  rw[e];exact .sc _ rfl
theorem qC.of_awp{fn}(g:yT P f)(hf:P.funcs[f]?=some fn)(hb:fn.body=some c)
  (hn:args.length<=fn.ntmps) (hd:dOkC fn.ntmps c=true) (h:awp P pl c (wF P fn.results.toList R) (st0 args mu)):qC P f args mu R:=by
 refine⟨g,fun G w vs s ra=>?_⟩;refine(callsIn_wide (n:=0)).1 (callsIn_of_wp_marks hf hb trivial ?_);refine Ul (n:=fn.ntmps) c (ro:=Ro.fn) s _ _ (st0 args mu) _ w G ?_ ?_ hd (.inl ⟨rfl,rfl⟩) h
 .intro ae e U a l o j r T
  obtain⟨Ds,g1,g2,g3,i,p⟩:=r.left rfl;have key:∀(u:FrameMode)(R:Ending->qe->Prop),u ≠ .run->LeavesIn Fence.wide 0 P fn a.tmps R [] u (wB Ds l)->LeavesInM Fence.wide 0 P fn a.tmps R a.defers u l:=by
   intro u R hu hl;rw[g1];exact W5 hu Ds l g2 g3 hl
  cases ae<;>cases e<;>simp only[ERel]at T
  .obtain ⟨z,t,C⟩:=j
   obtain⟨u,I,J⟩:=ZP i t;exact key .returning _ zSp ⟨u,I,o,U.mu,i.stp,.inl ⟨z,u,C,rfl,J⟩⟩
  .exact j.elim
  .obtain ⟨z,t,C⟩:=j
   obtain⟨u,I,J⟩:=ZP i t;exact key .returning _ zSp ⟨u,I,o,U.mu,i.stp,.inl ⟨z,u,C,rfl,J⟩⟩
  .obtain ⟨v,rfl,hv⟩:=T
   exact key (.panicking _) _ zSp ⟨o,U.mu,i.stp,.inr ⟨_,v,j,rfl,p _ _ hv⟩⟩
 .exact fM s ra hn
theorem Sim.empty{g h}(l:∀ b,g b->b<h.size)(o:ZF g h):Sim ⟨g,[]⟩ [] h:=
 ⟨rfl,l,fun i c b t h=>by simp at h,fun i c b t h=>by simp at h,fun i j ci p b t C h=>by simp at h,o⟩
theorem qj.of_sound{r}(h:qC P f args [] fun e mu'=>∃ p,e = .ret p/\Rd mu' p r):qj P f args r:=by
 obtain⟨l,h⟩:=h;refine⟨l,fun o w T hi ra=>?_⟩;refine(h ⟨o,[]⟩ w T hi ra).mono fun e w' ⟨J,mu',U,hR⟩=>?_
 have g:∀ b,¬Live ⟨o,[]⟩ [] b:=fun b ⟨i,c,t,hc,_⟩=>by simp at hc
 rcases hR with ⟨p,v,⟨C,R,I⟩,rfl,hv⟩|⟨p,v,⟨C,R,_⟩,_⟩
 .cases R
  refine⟨fun b=>J.imm b\/Live J mu' b,v,rfl,fun b j => .inl (U.le.imm b j),fun b j=>?_,⟨⟨U.os,U.tape,U.output,U.size,fun k hk=>U.keep k hk (g k)⟩,U.drawn⟩,I.sound U.sim hv⟩;rcases j with j|j
  .refine ⟨U.sim.imm b j,?_⟩
   rcases U.inew b j with h|h|h
   .exact .inl h
   .exact absurd h (g b)
   .exact .inr h
  .refine ⟨U.sim.livesize j,?_⟩
   rcases U.live b j with h|h
   .exact absurd h (g b)
   .exact .inr h
 grind
theorem qSW{fn}(g:yT P f)(hf:P.funcs[f]?=some fn)(i:fn.body=some c)(pl)(h:awp P pl c (wF P fn.results.toList R) (st0 args mu))(j:Nat.ble args.length fn.ntmps=true:=by kernel_rfl)(l:dOkC fn.ntmps c=true:=by kernel_rfl):qC P f args mu R:=qC.of_awp g hf i (vd j) l h
theorem qSQ{fn r}(g:yT P f)(hf:P.funcs[f]?=some fn)(j:fn.body=some c)(pl)(h:awp P pl c (wF P fn.results.toList fun e mu'=>∃ i,e = .ret i/\Rd mu' i r) (st0 args []))(l:Nat.ble args.length fn.ntmps=true:=by kernel_rfl)(o:dOkC fn.ntmps c=true:=by kernel_rfl):qj P f args r:=qj.of_sound (qSW g hf j pl h l o)
theorem qSV{fn r}(g:yT P f)(hf:P.funcs[f]?=some fn)(j:fn.body=some c)(h:awp P {} c (wF P fn.results.toList fun e mu'=>∃ i,e = .ret i/\Rd mu' i r) (st0 args []))(l:Nat.ble args.length fn.ntmps=true:=by kernel_rfl)(o:dOkC fn.ntmps c=true:=by kernel_rfl):qj P f args r:=qj.of_sound (qSW g hf j {} h l o)
theorem qSU{fn r Q}(g:yT P f)(hf:P.funcs[f]?=some fn)(j:fn.body=some c)(k:Q)(e:awp P {} c (wF P fn.results.toList fun e mu'=>∃ i,e = .ret i/\Rd mu' i r) (st0 args [])=Q:=by simp[go_sem];rfl)(l:Nat.ble args.length fn.ntmps=true:=by kernel_rfl)(o:dOkC fn.ntmps c=true:=by kernel_rfl):qj P f args r:=qSV g hf j (e.mpr k) l o
def RdN(mu:Mu)(x y:AV):Prop:=∀(G:Gh)(h:Array Obj)(v:qf),Sim G mu h->VRel G h x v->VRel ⟨Live G mu,[]⟩ h y v
theorem wu.of_sound{r}(h:qC P f args [] fun e mu'=>∃ o,e = .ret o/\RdN mu' o r):wu P f args r:=by
 obtain⟨j,h⟩:=h;refine⟨j,fun l w T hi ra=>?_⟩;refine(h ⟨l,[]⟩ w T hi ra).mono fun e w' ⟨I,mu',U,hR⟩=>?_
 have g:∀ b,¬Live ⟨l,[]⟩ [] b:=fun b ⟨i,c,t,hc,_⟩=>by simp at hc
 rcases hR with ⟨o,v,⟨p,J,C⟩,rfl,hv⟩|⟨o,v,⟨p,J,_⟩,_⟩
 .cases J
  refine⟨Live I mu',v,rfl,fun b R=>⟨?_,U.sim.livesize R⟩,⟨⟨U.os,U.tape,U.output,U.size,fun k hk=>U.keep k hk (g k)⟩,U.drawn⟩,C I w'.heap v U.sim hv⟩;rcases U.live b R with h|h
  .exact absurd h (g b)
  .exact h
 grind
theorem RdN.nil{full g}(h:full=true\/g=false):RdN mu (.lst full []) (.lst g []):=by
 intro G j v s r;have key:∀ cap:Nat,(full=true->cap=0)->(g=true->cap=0):=by
  grind
 cases r with
 |nil=>exact .nil _
 |emp _ a cap i=>exact .emp _ a cap (key cap i)
 |lst _ _ sz a cap l e o rd p t C i I J P R=>exact .emp _ a cap (key cap i)
theorem RdN.sl{b sz off len cells ys}(t:mu[b]?=some (.arr cells))(hl:off+len*sz<=cells.length)(J:ys.length=len)(C:jn sz ys)
  (hf:∀(k:Nat) y,ys.flatten[k]?=some y->FL y) (h:∀(k) x y,cells[off+k]?=some x->ys.flatten[k]?=some y->x=y):RdN mu (.sl b sz off len) (.lst false ys):=by
 intro G hp v s r;subst J;cases r with
 |sl _ _ _ _ i j cap I ht l =>
 obtain⟨arr,e,P,h2,h3,R⟩:=s.arr b cells i j t I;by_cases T:ys=[]
 .subst T;exact .emp false _ cap zSp
 .have U:=yK C
  have g:∀(k:Nat) y,ys.flatten[k]?=some y->∃ x,cells[off+k]?=some x:=by
   grind
  refine .lst false ys sz ⟨i,off,none⟩ cap arr e (0,0) (fun k=>arr.getD (off+k) z6) P rfl l zSp ⟨b,_,j,t,zSp,I⟩ C ?_ ?_
  .intro k y o
   obtain⟨x,p⟩:=g k y o;have:off+k<arr.size:=by grind
   simp_all
  .intro k y o
   obtain⟨x,p⟩:=g k y o;have:=h k x y p o;subst this;exact hf k x o _ _ _ _ _ (R _ x p).2
end
end Go.Ev
namespace Go.Ev
open Go Go.RowKit
section
variable {g:AV->St->Prop}{body:Code}{l:List yj}
theorem eqS{C}{a b:C}(h:a=b):a=b:=h
abbrev aI(n:Int):AV := .sc (.int .i64 n)
abbrev aB(b:Bool):AV := .sc (.bool b)
def panQ(Q:qW->St->Prop):AV->St->Prop:=fun v U=>Q (.pan v) U
def retK(R:AEnd->Mu->Prop)(m:Mu):AV->Prop:=fun r=>R (.ret r) m
def qk(P:qc)(pl:Pol)(l:List yj)(Q:St->Prop)(i:AV->St->Prop)(st:St):Prop:=∃ g,Fz st g/\Xh P pl l.toArray Q i g
theorem tJ{P pl Q st}(h:JL pl l.toArray=true)(k:awpS P pl true l.toArray l Q g st):qk P pl l Q g st:=⟨st,.refl st,.inl (.inl ⟨h,k⟩)⟩
theorem fD{P pl Q st R}(k:R)(h:JL pl l.toArray=true:=by kernel_rfl)(e:awpS P pl true l.toArray l Q g st=R:=by simp[go_sem];rfl):qk P pl l Q g st:=tJ h (e.mpr k)
theorem qk.move{P pl Q st}(a d)(h:Ud pl l.toArray a (a+d)=true)(i:(Nat.blt 0 d&&Nat.blt (a+d) l.length)=true)(k:awpS P pl true l.toArray l Q g st)(j:awpS P pl true l.toArray (jM a d l) Q g st):qk P pl l Q g st:=by
 rw[qD]at i;exact⟨st,.refl st,.inl (.inr (.inr ⟨a,d,h,vd i.1,vd i.2,k,j⟩))⟩
theorem qk.tail{P pl Q st}(n)(h:Xc pl l.toArray n=true)(k:awpS P pl true l.toArray (l.take n) (fun st=>awpS P pl false l.toArray (l.drop n) Q g st) g st):qk P pl l Q g st:=
 ⟨st,.refl st,.inl (.inr (.inl ⟨n,h,k⟩))⟩
@[go_sem ↓] theorem sameK_eq(st d mu v m):Yq st d mu v m=(v=st.tm d/\m=mu):=eqS rfl
theorem qk.fz{P pl Q st}(h:FzQ (fun _ st=>qk P pl l Q g st) (.exit 0) st):qk P pl l Q g st:=by
 obtain⟨i,f,_,st2,f2,j⟩:=h;exact⟨st2,.step f f2,j⟩
def panT(g:AV->St->Prop):AV->Mu->Prop:=fun v m=>∀ i,g v ⟨i,m⟩
@[go_sem ↓] theorem panT_eq(g v m):panT g v m=∀ i,g v ⟨i,m⟩:=eqS rfl
theorem qk.seg{P pl Q st}(O T)(h:JN pl l.toArray O=true)(i:plan pl l.toArray [] O=T)(j:wD P l.toArray T)(k:awpT P pl l.toArray Q g T st):qk P pl l Q g st:=by
 subst i;exact⟨st,.refl st,.inr ⟨O,h,j,k⟩⟩
def qT:List Nat->List (Nat×Nat×List Nat)->List (Nat×Nat×List Nat)
 | [],_=>[]
 |i :: O,[]=>(i,0,[]) :: qT O []
 |i :: O,e :: L=>if i=e.1 then e :: qT O L else (i,0,[]) :: qT O (e :: L)
@[go_sem ↓] theorem qT_nil(L):qT [] L=[]:=eqS (by cases L<;>rfl)
@[go_sem ↓] theorem qT_c0:(∀ i O,qT (i :: O) []=(i,0,[]) :: qT O [])/\(∀ i j k r O L,qT (i :: O) ((j,k,r) :: L)=if i=j then (j,k,r) :: qT O L else (i,0,[]) :: qT O ((j,k,r) :: L)):=by and_intros<;>intros<;>exact eqS rfl
theorem fG{P pl Q st}(O L)(h:JN pl l.toArray O=true)(i:plan pl l.toArray [] O=qT O L)(j:wD P l.toArray (qT O L))(k:awpT P pl l.toArray Q g (qT O L) st):qk P pl l Q g st:=
 qk.seg O (qT O L) h i j k
def newO(P:qc):Nat->Option yj->Prop
 | 2,some o=>(match o.op with | .alloc e=>OptK (qB P e) fun z=>z.cells.all AV.one=true|_=>False)
 |_,_=>True
@[go_sem ↓] theorem newOk_nil(P ops):wD P ops []=True:=eqS rfl
@[go_sem ↓] theorem qtY(P)(l:List yj)(j k r T):wD P l.toArray ((j,k,r) :: T)=(newO P k l[j]?/\wD P l.toArray T):=by
 show ((match k,l.toArray[j]? with|2,some o=>(match o.op with | .alloc e=>OptK (qB P e) fun z=>z.cells.all AV.one=true|_=>False)|_,_=>True)/\wD P l.toArray T)=_;rw[Qb];congr 1
@[go_sem ↓] theorem newO_0:(∀ P o,newO P 0 o=True)/\(∀ P o,newO P 1 o=True):=by and_intros<;>intros<;>exact eqS rfl
@[go_sem ↓] theorem newO_2(P i e ty pos after g):newO P 2 (some ⟨i,.alloc e,ty,pos,after,g⟩)=OptK (qB P e) (fun z=>z.cells.all AV.one=true):=eqS rfl
def segK(P:qc)(pl:Pol)(l:List yj)(Q:St->Prop)(i:AV->St->Prop)(r:List Nat)(T:List (Nat×Nat×List Nat))(g:Option Tmp)(st:St):AV->Mu->Prop:=fun v m=>uQ P pl l.toArray r (st.put g v m)/\awpT P pl l.toArray Q i T (st.put g v m)
def segP(g:AV->St->Prop)(k:Nat):AV->Mu->Prop:=fun v m=>k=1/\∀ i,g v ⟨i,m⟩
def segO(P:qc)(pl:Pol)(l:List yj)(Q:St->Prop)(g:AV->St->Prop)(k:Nat)(r:List Nat)(T:List (Nat×Nat×List Nat))(st:St):Option yj->Prop
 |none=>False
 |some o=>OptK (yN l.toArray st o) fun b=>Br b (qH P pl (k != 1) o.dst o.op st.ev st.mu (segK P pl l Q g r T o.dst st) (segP g k)) (awpT P pl l.toArray Q g T (st.put o.dst (.sc z6) st.mu))
@[go_sem ↓] theorem awpT_nil(P pl ops Q g st):awpT P pl ops Q g [] st=Q st:=eqS rfl
@[go_sem ↓] theorem awpT_cons(P pl l Q g j k r T st):awpT P pl l.toArray Q g ((j,k,r) :: T) st=segO P pl l Q g k r T st l[j]?:=by
 show (match l.toArray[j]? with|none=>False|some o=>OptK (yN l.toArray st o) fun b=>Br b (qH P pl (k != 1) o.dst o.op st.ev st.mu (fun v m=>uQ P pl l.toArray r (st.put o.dst v m)/\awpT P pl l.toArray Q g T (st.put o.dst v m)) (fun v m=>k=1/\∀ i,g v ⟨i,m⟩)) (awpT P pl l.toArray Q g T (st.put o.dst (.sc z6) st.mu)))=_;rw[Qb];cases l[j]?<;>rfl
@[go_sem ↓] theorem segO_0(P pl l Q i r T st g op ty pos after) :
  segO P pl l Q i 0 r T st (some ⟨g,op,ty,pos,after,none⟩)=qH P pl true g op st.ev st.mu (segK P pl l Q i r T g st) noK:=by
 have:segP i 0=noK:=by funext v m;simp[segP,noK]
 show OptK (some true) (fun b=>Br b (qH P pl true g op st.ev st.mu (segK P pl l Q i r T g st) (segP i 0)) _)=_;rw[this];simp[OptK,Br]
@[go_sem ↓] theorem segO_1(P pl l Q i r T st g op ty pos after) :
  segO P pl l Q i 1 r T st (some ⟨g,op,ty,pos,after,none⟩)=qH P pl false g op st.ev st.mu (segK P pl l Q i r T g st) (panT i):=by
 have:segP i 1=panT i:=by funext v m;simp[segP,panT]
 show OptK (some true) (fun b=>Br b (qH P pl false g op st.ev st.mu (segK P pl l Q i r T g st) (segP i 1)) _)=_;rw[this];simp[OptK,Br]
@[go_sem ↓] theorem segO_2(P pl l Q i r T st g op ty pos after) :
  segO P pl l Q i 2 r T st (some ⟨g,op,ty,pos,after,none⟩)=qH P pl true g op st.ev st.mu (segK P pl l Q i r T g st) noK:=by
 have:segP i 2=noK:=by funext v m;simp[segP,noK]
 show OptK (some true) (fun b=>Br b (qH P pl true g op st.ev st.mu (segK P pl l Q i r T g st) (segP i 2)) _)=_;rw[this];simp[OptK,Br]
@[go_sem ↓] theorem segK_eq(P pl l Q i r T g st v m):segK P pl l Q i r T g st v m=(uQ P pl l.toArray r (st.put g v m)/\awpT P pl l.toArray Q i T (st.put g v m)):=eqS rfl
@[go_sem ↓] theorem qtZ(P pl ops st):uQ P pl ops [] st=True:=eqS rfl
def nh(P:qc)(pl:Pol)(l:List yj)(st:St):Option yj->Prop
 |some o=>OptK (yN l.toArray st o) fun b=>Br b (JO P pl o st) True
 |none=>True
@[go_sem ↓] theorem qt0(P pl l p r st):uQ P pl l.toArray (p :: r) st=(nh P pl l st l[p]?/\uQ P pl l.toArray r st):=by
 show ((match l.toArray[p]? with|some o=>OptK (yN l.toArray st o) (fun b=>Br b (JO P pl o st) True)|none=>True)/\uQ P pl l.toArray r st)=_;rw[Qb];cases l[p]?<;>rfl
@[go_sem ↓] theorem qt1(P pl l st d op ty pos after):nh P pl l st (some ⟨some d,op,ty,pos,after,none⟩)=qH P pl true (some d) op st.ev st.mu (Yq st d st.mu) noK:=by
 show OptK (some true) (fun b=>Br b (qH P pl true (some d) op st.ev st.mu (Yq st d st.mu) noK) True)=_;simp[OptK,Br]
def qm(P:qc)(pl:Pol)(body:Code)(Q:qW->St->Prop)(st:St):Prop:=∃(z:Bool) (I:Nat->St->Prop) (n:Nat) (g:St),Fz st g/\I n g/\∀ n st,I n st->awp P pl body (wE I n (fzQ z Q)) st
theorem tL{P pl Q st}(I n)(h:I n st)(k:∀ n st,I n st->awp P pl body (wE I n Q) st):qm P pl body Q st:=⟨false,I,n,st,.refl st,h,k⟩
theorem fB{P pl Q st}(I n)(h:I n st)(k:∀ n st,I n st->awp P pl body (wE I n (FzQ Q)) st):qm P pl body Q st:=⟨true,I,n,st,.refl st,h,k⟩
def uj(P:qc)(pl:Pol)(g:AV)(ps:Array Tmp)(l body:Code)(Q:qW->St->Prop)(st:St):Prop:=
 ∃(z:Bool) (p:zV) (i:List AV) (rows:List (List AV)) (I:Nat->Mu->Prop) (o:qW->Mu->Prop),
   g = .fn (.func p) [] i/\g7 P p i rows I o/\I 0 (st.mu++[.dead]) /\
   (∀ k x j,rows[k]?=some x->I k j->x.length=ps.size/\awp P pl l (asQ (fun st=>awp P pl body (rndQ I o k) st)) ⟨uR st.tm ps.toList x,j⟩) /\
   (∀ j,I rows.length j->fzQ z Q .normal ⟨st.tm,j⟩)/\(∀ e j,o e j->fzQ z Q e ⟨st.tm,j⟩)
theorem tQ{P pl j caps ps g Q st rows}(l:jO P j caps rows)(I i)
  (o:I 0 (st.mu++[.dead])) (p:∀ k mu,I k mu->I k (mu++[.dead])) (t:∀ e mu,i e mu->i e (mu++[.dead]))
  (C:∀ k x mu,rows[k]?=some x->I k mu->x.length=ps.size/\awp P pl g (asQ (fun st=>awp P pl body (rndQ I i k) st)) ⟨uR st.tm ps.toList x,mu⟩)
  (J:∀ mu,I rows.length mu->Q .normal ⟨st.tm,mu⟩) (R:∀ e mu,i e mu->Q e ⟨st.tm,mu⟩):uj P pl (.fn (.func j) [] caps) ps g body Q st:=
 ⟨false,j,caps,rows,I,i,rfl,.inl ⟨l,p,t⟩,o,C,J,R⟩
@[go_sem] theorem setPs_nil(g xs):uR g [] xs=g:=eqS (by cases xs<;>rfl)
@[go_sem] theorem qt2(g t ts x xs):uR g (t :: ts) (x :: xs)=uR (fun i=>if i=t then x else g i) ts xs:=eqS rfl
@[go_sem] theorem qt3(n st):asQ n .normal st=n st:=eqS rfl
@[go_sem] theorem qt4:(∀ I g k st,rndQ I g k .normal st=I (k+1) st.mu)/\(∀ I g k st,rndQ I g k .ret st=g .ret st.mu):=by and_intros<;>intros<;>exact eqS rfl
section
variable (P:qc) (pl:Pol) (Q:qW->St->Prop) (st:St)
@[go_sem ↓] theorem awp_skip:awp P pl .skip Q st=Q .normal st:=eqS rfl
@[go_sem ↓] theorem awp_label(l):awp P pl (.label l) Q st=Q .normal st:=eqS rfl
@[go_sem ↓] theorem awp_exit:(∀ id,awp P pl (.exit id) Q st=Q (.exit id) st)/\(awp P pl .ret Q st=Q .ret st):=by and_intros<;>intros<;>exact eqS rfl
@[go_sem ↓] theorem qiX(a b):awp P pl (.seq a b) Q st=awp P pl a (seqQ (awp P pl b Q) Q) st:=eqS rfl
@[go_sem ↓] theorem awp_block:(∀ id b,awp P pl (.block id b) Q st=awp P pl b (ui id Q) st)/\(∀ b,awp P pl (.loop b) Q st=qm P pl b Q st):=by and_intros<;>intros<;>exact eqS rfl
@[go_sem ↓] theorem qt5(g ps i body):awp P pl (.rangeFunc g ps i body) Q st=uj P pl (st.ev g) ps i body Q st:=eqS rfl
@[go_sem ↓] theorem qt6(id l):awp P pl (.region id l.toArray false) Q st=awpS P pl false l.toArray l (Q .normal) (panQ Q) st:=
 propext ⟨fun h=>by rcases h with ⟨_,h⟩|⟨e,_⟩;exact h;exact absurd e zSp,fun h => .inl ⟨rfl,h⟩⟩
@[go_sem ↓] theorem qiY(id l):awp P pl (.region id l.toArray true) Q st=qk P pl l (Q .normal) (panQ Q) st:=
 propext ⟨fun h=>by rcases h with ⟨e,_⟩|⟨_,h⟩;exact absurd e zSp;exact h,fun h => .inr ⟨rfl,h⟩⟩
def BrS(b:Bool)(p q:St->Prop)(st:St):Prop:=Br b (p st) (q st)
@[go_sem ↓] theorem BrS_true(p q):BrS true p q st=p st:=by simp[BrS,Br]
@[go_sem ↓] theorem BrS_false(p q):BrS false p q st=q st:=by simp[BrS,Br]
@[go_sem] theorem BrS_true'(p q):BrS true p q st=p st:=by simp[BrS,Br]
@[go_sem] theorem qt7(p q):BrS false p q st=q st:=by simp[BrS,Br]
theorem tZ{b p q st}(g:b=true->p st)(i:b=false->q st):BrS b p q st:=⟨g,i⟩
def Xj(v:AV)(p q:St->Prop)(st:St):Prop:=∃ t,v = .sc (.bool t)/\Br t (p st) (q st)
@[go_sem ↓] theorem awp_cond(c a b):awp P pl (.cond c a b) Q st=Xj (st.ev c) (awp P pl a Q) (awp P pl b Q) st:=eqS rfl
@[go_sem] theorem qt8(t p q):Xj (.sc (.bool t)) p q st=BrS t p q st:=by
 simp[Xj,BrS]
@[go_sem ↓] theorem qt9:(∀ n,seqQ n Q .normal st=n st)/\(∀ n i,seqQ n Q (.exit i) st=Q (.exit i) st)/\(∀ n,seqQ n Q .ret st=Q .ret st)/\(∀ n v,seqQ n Q (.pan v) st=Q (.pan v) st)/\(∀ i,ui i Q .normal st=Q .normal st)/\(∀ i j,ui j Q (.exit i) st=if i=j then Q .normal st else Q (.exit i) st)/\(∀ i,ui i Q .ret st=Q .ret st)/\(∀ i v,ui i Q (.pan v) st=Q (.pan v) st)/\(∀ I n,wE I n Q .normal st=∃ m,m<n/\I m st)/\(∀ I n i,wE I n Q (.exit i) st=Q (.exit i) st):=by and_intros<;>intros<;>exact eqS rfl
@[go_sem ↓] theorem loopQ_ret:(∀ I n,wE I n Q .ret st=Q .ret st)/\(∀ I n v,wE I n Q (.pan v) st=Q (.pan v) st)/\(∀ v,panQ Q v st=Q (.pan v) st):=by and_intros<;>intros<;>exact eqS rfl
@[go_sem ↓] theorem quG:(∀ rs R,wF P rs R .normal st=OptK (jZ P st rs) (retK R st.mu))/\(∀ rs R,wF P rs R .ret st=OptK (jZ P st rs) (retK R st.mu))/\(∀ rs R v,wF P rs R (.pan v) st=R (.pan v) st.mu):=by and_intros<;>intros<;>exact eqS rfl
@[go_sem ↓] theorem retK_eq(R m r):retK R m r=R (.ret r) m:=eqS rfl
@[go_sem] theorem quH:(∀ r,jZ P st [r]=resV P st r)/\(jZ P st []=some (.tup [])):=by and_intros<;>intros<;>exact eqS rfl
@[go_sem] theorem quJ(r s):jZ P st [r,s]=(match resV P st r,resV P st s with|some x,some y=>some (.tup [x,y])|_,_=>none):=by
 grind [jZ,resL,resV]
@[go_sem] theorem quK(r s t):jZ P st [r,s,t]=(match resV P st r,resV P st s,resV P st t with|some x,some y,some z=>some (.tup [x,y,z])|_,_,_=>none):=by
 simp only[jZ,resL]
 grind
@[go_sem] theorem resV_tmp:(∀ t,resV P st (.tmp t)=some (st.tm t))/\(∀ a t,resV P st (.cell a t)=Qd P st.mu t (st.tm a)):=by and_intros<;>intros<;>exact eqS rfl
end
end
section
variable {α:Type}
@[go_sem] theorem OptK_some(v)(k:α->Prop):OptK (some v) k=k v:=by simp[OptK]
theorem t7{o k}(v:α)(h:o=some v)(g:k v):OptK o k:=⟨v,h,g⟩
end
section
variable (P:qc) (pl:Pol) (det:Bool) (ops:Array yj) (Q:St->Prop) (Qp:AV->St->Prop) (st:St)
def Um(P:qc)(pl:Pol)(det:Bool)(ops:Array yj)(l:List yj)(Q:St->Prop)(Qp:AV->St->Prop)(st:St)(g:Option Tmp):AV->Mu->Prop:=fun v m=>awpS P pl det ops l Q Qp (st.put g v m)
def panS(Qp:AV->St->Prop)(st:St):AV->Mu->Prop:=fun v m=>Qp v ⟨st.tm,m⟩
@[go_sem ↓] theorem contK_eq(l g v m):Um P pl det ops l Q Qp st g v m=awpS P pl det ops l Q Qp (st.put g v m):=eqS rfl
@[go_sem ↓] theorem panS_eq(v m):panS Qp st v m=Qp v ⟨st.tm,m⟩:=eqS rfl
@[go_sem ↓] theorem awpS_nil:awpS P pl det ops [] Q Qp st=Q st:=eqS rfl
@[go_sem ↓] theorem quL(g op ty pos after l):awpS P pl det ops (⟨g,op,ty,pos,after,none⟩ :: l) Q Qp st =
  qH P pl det g op st.ev st.mu (Um P pl det ops l Q Qp st g) (panS Qp st):=by
 simp[awpS,yN,OptK,Br];rfl
def runK(P:qc)(pl:Pol)(det:Bool)(ops:Array yj)(g:Option Tmp)(op:Op)(l:List yj)(Q:St->Prop)(Qp:AV->St->Prop):St->Prop:=fun st=>qH P pl det g op st.ev st.mu (Um P pl det ops l Q Qp st g) (panS Qp st)
def nj(P:qc)(pl:Pol)(det:Bool)(ops:Array yj)(g:Option Tmp)(l:List yj)(Q:St->Prop)(Qp:AV->St->Prop):St->Prop:=fun st=>awpS P pl det ops l Q Qp (st.put g (.sc z6) st.mu)
@[go_sem ↓] theorem runK_eq:(∀ g op l,runK P pl det ops g op l Q Qp st=qH P pl det g op st.ev st.mu (Um P pl det ops l Q Qp st g) (panS Qp st))/\(∀ g l,nj P pl det ops g l Q Qp st=awpS P pl det ops l Q Qp (st.put g (.sc z6) st.mu)):=by and_intros<;>intros<;>exact eqS rfl
def brK(p q:St->Prop)(st:St):Bool->Prop:=fun b=>BrS b p q st
@[go_sem ↓] theorem brK_eq(p q b):brK p q st b=BrS b p q st:=eqS rfl
def JR(d:Option Tmp)(st:St)(g:Bool)(p q:St->Prop):Prop:=OptK (match d with|none=>some false|some d=>Yo (st.tm d) g) (brK p q st)
@[go_sem ↓] theorem quM(i op ty pos after l j g)(ol:List yj) :
  awpS P pl det ol.toArray (⟨i,op,ty,pos,after,some (j,g)⟩ :: l) Q Qp st=JR ((ol[j]?).bind (·.dst)) st g (runK P pl det ol.toArray i op l Q Qp) (nj P pl det ol.toArray i l Q Qp):=by
 simp only[awpS,yN,JR,Qb];rfl
@[go_sem] theorem quN(d g p q):JR (some d) st g p q=OptK (Yo (st.tm d) g) (brK p q st):=eqS rfl
@[go_sem] theorem quO:(∀ b g,Yo (.sc (.bool b)) g=some (b == g))/\(∀ g,Yo (.sc z6) g=some false):=by and_intros<;>intros<;>exact eqS rfl
end
def plc(l:List (Nat×Nat)):Nat->Option (Nat×Nat):=fun i=>l.toArray[i]?
def plA(s:Nat):Nat->Option (Nat×Nat):=fun i=>some (i*s,s)
@[go_sem] theorem plc_zero(p l):plc (p :: l) 0=some p:=by simp[plc]
@[go_sem] theorem plc_succ(p l i):plc (p :: l) (i+1)=plc l i:=by simp[plc]
@[go_sem] theorem plA_eq(s i):plA s i=some (i*s,s):=eqS rfl
section
variable (st:St) (v:AV) (m:Mu)
@[go_sem] theorem nq(d i:Tmp):(st.put (some d) v m).tm i=if i=d then v else st.tm i:=eqS rfl
@[go_sem] theorem quQ(i:Tmp):(st.put none v m).tm i=st.tm i:=eqS rfl
@[go_sem] theorem qK(d):(st.put d v m).mu=m:=eqS rfl
@[go_sem] theorem st0_tm:(∀(args)(i:Tmp),(st0 args m).tm i=(args[i]?).getD (.sc z6))/\(∀ args,(st0 args m).mu=m):=by and_intros<;>intros<;>exact eqS rfl
@[go_sem] theorem ev_tmp:(∀ t,st.ev (.tmp t)=st.tm t)/\(∀ c,st.ev (.const c)=ofV c)/\(∀ f,st.ev (.func f) = .fn (.func f) [] []):=by and_intros<;>intros<;>exact eqS rfl
@[go_sem] theorem ofV_int:(∀ k n,ofV (.int k n) = .sc (.int k n))/\(∀ b,ofV (.bool b) = .sc (.bool b))/\(∀(s:dC),ofV (.string s) = .sc (.string s))/\(ofV (.slice none 0 0) = .lst true [])/\(ofV .nilIface = .sc .nilIface)/\(ofV .nilFunc = .sc .nilFunc):=by and_intros<;>intros<;>exact eqS rfl
end
section
variable (P:qc) (pl:Pol) (det:Bool) (dst:Option Tmp) (ev:qh->AV) (mu:Mu) (K Kp:AV->Mu->Prop)
def km(K:AV->Mu->Prop)(mu:Mu):AV->Prop:=fun z=>K z mu
def ks(K:AV->Mu->Prop):Mu->Prop:=fun m=>K (.sc z6) m
def kp(K:AV->Mu->Prop):AV×Mu->Prop:=fun z=>K z.1 z.2
def nr(K:AV->Mu->Prop)(mu:Mu):AV->Prop:=fun z=>z.cells.all AV.one=true/\K (.ptr mu.length 0) (mu++[.arr z.cells])
@[go_sem ↓] theorem km_eq(z):km K mu z=K z mu:=eqS rfl
@[go_sem ↓] theorem ks_eq:(∀ m,ks K m=K (.sc z6) m)/\(∀ z m,kp K (z,m)=K z m):=by and_intros<;>intros<;>exact eqS rfl
@[go_sem ↓] theorem allocK_eq(z):nr K mu z=(z.cells.all AV.one=true/\K (.ptr mu.length 0) (mu++[.arr z.cells])):=eqS rfl
@[go_sem ↓] theorem quV:(∀ x,qH P pl det dst (.move x) ev mu K Kp=K (ev x) mu)/\(∀ x,qH P pl det dst (.assign x) ev mu K Kp=K (ev x) mu):=by and_intros<;>intros<;>exact eqS rfl
def Xk(v a b:AV)(k:AV->Prop):Prop:=∃ t,v = .sc (.bool t)/\k (if t then a else b)
@[go_sem ↓] theorem quX(c a b):qH P pl det dst (.pick c a b) ev mu K Kp=Xk (ev c) (ev a) (ev b) (km K mu):=eqS rfl
@[go_sem] theorem quY(t a b k):Xk (.sc (.bool t)) a b k=k (if t then a else b):=by simp[Xk]
@[go_sem ↓] theorem quZ:(∀ e,qH P pl det dst (.alloc e) ev mu K Kp=OptK (qB P e) (nr K mu))/\(∀ e x,qH P pl det dst (.box e x) ev mu K Kp=((ev x).cells.all AV.one=true/\(if (dst.any pl.mt.contains)=true then K (.ptr mu.length 0) (mu++[.arr (ev x).cells]) else K (.ip (ev x).cells) mu)))/\(∀(t)(ps:List (Nat×qh)),qH P pl det dst (.build t ps.toArray) ev mu K Kp=(yi P t=true/\OptK (VV P t (ps.map fun p=>(p.1,ev p.2))) (km K mu)))/\(∀(t n)(ps:List (Nat×qh)),qH P pl det dst (.buildSlice t n ps.toArray) ev mu K Kp=OptK (VX P t n (ps.map fun p=>(p.1,ev p.2))) (km K mu))/\(∀ t x,qH P pl det dst (.load t x) ev mu K Kp=OptK (Qd P mu t (ev x)) (km K mu))/\(∀ t a x,qH P pl det dst (.store t a x) ev mu K Kp=OptK (VN P mu t (ev a) (ev x)) (ks K))/\(∀ x,qH P pl det dst (.nilCheck x) ev mu K Kp=OptK (V7 (ev x)) (km K mu)):=by and_intros<;>intros<;>exact eqS rfl
def ul(P:qc)(det:Bool)(op:BinOp)(t:qd)(x y:qh)(ev:qh->AV)(mu:Mu)(K:AV->Mu->Prop):Prop:=if wA y=true then jX P det op t (ev x) (km K mu) else OptK (Qg P op t (ev x) (ev y)) (km K mu)
@[go_sem ↓] theorem qu5(op t g x y):qH P pl det dst (.binOp op t x y g) ev mu K Kp=ul P det op t x y ev mu K:=eqS rfl
@[go_sem ↓] theorem BinGo_tmp(op t x u):ul P det op t x (.tmp u) ev mu K=OptK (Qg P op t (ev x) (ev (.tmp u))) (km K mu):=by simp[ul,wA]
@[go_sem ↓] theorem BinGo_int(op t x k n):ul P det op t x (.const (.int k n)) ev mu K=OptK (Qg P op t (ev x) (ev (.const (.int k n)))) (km K mu):=by simp[ul,wA]
@[go_sem ↓] theorem qu6(op t x)(s:dC):ul P det op t x (.const (.string s)) ev mu K=OptK (Qg P op t (ev x) (ev (.const (.string s)))) (km K mu):=by simp[ul,wA]
@[go_sem ↓] theorem qu7(op t x):ul P det op t x (.const .nilIface) ev mu K=OptK (Qg P op t (ev x) (ev (.const .nilIface))) (km K mu):=by simp[ul,wA]
@[go_sem ↓] theorem qu8(op t x):ul P det op t x (.const (.pointer none)) ev mu K=OptK (Qg P op t (ev x) (ev (.const (.pointer none)))) (km K mu):=by simp[ul,wA]
@[go_sem ↓] theorem BinGo_nil(op t x):ul P det op t x (.const (.slice none 0 0)) ev mu K=jX P det op t (ev x) (km K mu):=by simp[ul,wA]
@[go_sem] theorem qu9:(∀ op t f r xs k,jX P det op t (.lst f (r :: xs)) k=((qF P t).isSome=true/\(op = .eql\/op = .neq)/\k (.sc (.bool (decide (op = .neq))))))/\(∀ op t f k,jX P det op t (.lst f []) k=((qF P t).isSome=true/\(op = .eql\/op = .neq)/\det=false/\k (.sc (.bool true))/\k (.sc (.bool false)))):=by and_intros<;>intros<;>exact eqS rfl
@[go_sem ↓] theorem qvA:(∀ op t x,qH P pl det dst (.unOp op t x) ev mu K Kp=OptK (aUn op (ev x)) (km K mu))/\(∀ s t x,qH P pl det dst (.convert s t x) ev mu K Kp=((P.underlying s).isSome=true/\OptK (VO P s t (ev x)) (km K mu)))/\(∀ t x,qH P pl det dst (.makeInterface t x) ev mu K Kp=(Ze P t=true/\K (.ifc t (ev x)) mu))/\(∀ f a b,qH P pl det dst (.makeFunc f a.toArray b.toArray) ev mu K Kp=K (.fn f (evs ev a) (evs ev b)) mu)/\(∀ t l c,qH P pl det dst (.makeSlice t l c) ev mu K Kp=OptK (JE P mu t (ev l) (ev c)) (kp K))/\(∀ t x lo g mx,qH P pl det dst (.slice t x lo g mx) ev mu K Kp=(gn P t (ev x)/\OptK (VU P t (ev x) (lo.map ev) (g.map ev) (mx.map ev)) (km K mu)))/\(∀ t x f,qH P pl det dst (.fieldAddr t x f) ev mu K Kp=OptK (VP P t f (ev x)) (km K mu))/\(∀ t x f,qH P pl det dst (.field t x f) ev mu K Kp=OptK (VS P t f (ev x)) (km K mu))/\(∀ t x i,qH P pl det dst (.indexAddr t x i) ev mu K Kp=OptK (VQ P t (ev x) (ev i)) (km K mu))/\(∀ t x i,qH P pl det dst (.index t x i) ev mu K Kp=OptK (VT P t (ev x) (ev i)) (km K mu)):=by and_intros<;>intros<;>exact eqS rfl
@[go_sem ↓] theorem qvK:(∀ x i,qH P pl det dst (.extract x i) ev mu K Kp=OptK (WX i (ev x)) (km K mu))/\(∀ x g t ok,qH P pl det dst (.typeAssert x g t ok) ev mu K Kp=OptK (V8 P t ok (ev x)) (km K mu)):=by and_intros<;>intros<;>exact eqS rfl
@[go_sem ↓] theorem qvM(t):qH P pl det dst (.makeMap t none) ev mu K Kp=K (.mp mu.length) (mu++[.mp []]):=by
 simp only[qH,true_and]
@[go_sem ↓] theorem qvN:(∀ t m k ok,qH P pl det dst (.lookup t m k ok) ev mu K Kp=OptK (yL P mu t (ev m) (ev k) ok) (km K mu))/\(∀ t m k v,qH P pl det dst (.mapUpdate t m k v) ev mu K Kp=OptK (uf P mu t (ev m) (ev k) (ev v)) (ks K))/\(∀ t m k v,qH P pl det dst (.insert t m k v) ev mu K Kp=OptK (uf P mu t (ev m) (ev k) (ev v)) (ks K))/\(∀ t m,qH P pl det dst (.range t m) ev mu K Kp=OptK (V5 P mu t (ev m)) (kp K)):=by and_intros<;>intros<;>exact eqS rfl
@[go_sem ↓] theorem qvR(i):qH P pl false dst (.next i false) ev mu K Kp=WV mu (ev i) K:=by
 simp only[qH,true_and]
@[go_sem ↓] theorem qvS:(∀ i,qH P pl det dst (.entry i) ev mu K Kp=OptK (ZN mu (ev i)) (km K mu))/\(∀ x,qH P pl det dst (.panic x) ev mu K Kp=(det=false/\∃ t v,ev x = .ifc t v/\Kp (.ifc t v) mu))/\(∀ f g i,qH P pl det dst (.call ⟨.value f,g.toArray,i⟩) ev mu K Kp=qi P det mu (ev f) (evs ev g) K Kp):=by and_intros<;>intros<;>exact eqS rfl
def nt(P:qc)(mu:Mu)(g:Array qd)(l:List AV)(K:AV->Mu->Prop):Prop:=∃ s x,l=[s,x]/\qx P mu g s x K
@[go_sem ↓] theorem qvV(g i):qH P pl det dst (.call ⟨.builtin .append,g.toArray,i⟩) ev mu K Kp=nt P mu i (evs ev g) K:=eqS rfl
@[go_sem] theorem AppGo_eq(g s x):nt P mu g [s,x] K=qx P mu g s x K:=
 propext ⟨fun⟨_,_,e,h⟩=>by cases e;exact h,fun h=>⟨s,x,rfl,h⟩⟩
@[go_sem ↓] theorem qvW(g i):qH P pl det dst (.call ⟨.builtin .copy,g.toArray,i⟩) ev mu K Kp=Zf P mu .copy i (evs ev g) K:=eqS rfl
theorem Xl{P mu K t l sz g b off len cells ys x}(i : (qF P t).map (fun x => x.2.1) = some sz)(o : mu[b]? = some (.arr cells))(p : off + len * sz<=cells.length)
      (C:qA mu x=some ys) (I:qV sz ys) (k:K (.sc (.int .i64 ((min ys.length len:Nat):Int))) (mu.set b (.arr (putCells cells off (ys.take len).flatten)))):Zf P mu .copy #[t,l] [.sl b g off len,x] K:=by
  cases j:qF P t with
  |none=>simp[j]at i
  |some q =>
    obtain⟨e,J,R⟩:=q;simp only[j,zh,qs]at i;subst i;exact⟨_,_,.copy j o p C I,k⟩
@[go_sem ↓] theorem SStep_len:(∀ g i,qH P pl det dst (.call ⟨.builtin .len,g.toArray,i⟩) ev mu K Kp=OptK (uO P mu .len i (evs ev g)) (km K mu))/\(∀ g i,qH P pl det dst (.call ⟨.builtin .cap,g.toArray,i⟩) ev mu K Kp=OptK (uO P mu .cap i (evs ev g)) (km K mu))/\(∀ g i,qH P pl det dst (.call ⟨.builtin .min,g.toArray,i⟩) ev mu K Kp=OptK (uO P mu .min i (evs ev g)) (km K mu))/\(∀ g i,qH P pl det dst (.call ⟨.builtin .max,g.toArray,i⟩) ev mu K Kp=OptK (uO P mu .max i (evs ev g)) (km K mu)):=by and_intros<;>intros<;>exact eqS rfl
@[go_sem] theorem evs_nil:(evs ev []=[])/\(∀ x l,evs ev (x :: l)=ev x :: evs ev l):=by and_intros<;>intros<;>exact eqS rfl
end
@[go_sem] theorem cells_agg:(∀ cs,(AV.agg cs).cells=cs)/\(∀ v,(AV.sc v).cells=[.sc v])/\(∀ f xs,(AV.lst f xs).cells=[.lst f xs])/\(∀ cs,(AV.ip cs).cells=[.ip cs])/\(∀ b o,(AV.ptr b o).cells=[.ptr b o])/\(∀ b,(AV.mp b).cells=[.mp b])/\(∀ f a b,(AV.fn f a b).cells=[.fn f a b])/\(∀ k n,(AV.sc (.int k n)).one=true)/\(∀ b,(AV.sc (.bool b)).one=true)/\(∀(s:dC),(AV.sc (.string s)).one=true):=by and_intros<;>intros<;>exact eqS rfl
@[go_sem] theorem qvY:((AV.sc .nilFunc).one=true)/\((AV.sc (.pointer none)).one=true)/\((AV.sc (.map none)).one=true)/\(∀ f xs,(AV.lst f xs).one=true)/\(∀ cs,(AV.ip cs).one=true)/\(∀ b o,(AV.ptr b o).one=true)/\(∀ b,(AV.mp b).one=true)/\(∀ es,(AV.ims es).one=true)/\(∀ f a b,(AV.fn f a b).one=true):=by and_intros<;>intros<;>exact eqS rfl
@[go_sem] theorem qv1(x l):vq 0 x l=x :: l:=eqS (by cases l<;>rfl)
@[go_sem] theorem qv2:(∀ d x y l,vq (d+1) x (y :: l)=y :: vq d x l)/\(∀ d x l,jM 0 d (x :: l)=vq d x l)/\(∀ n d x l,jM (n+1) d (x :: l)=x :: jM n d l):=by and_intros<;>intros<;>exact eqS rfl
end Go.Ev
