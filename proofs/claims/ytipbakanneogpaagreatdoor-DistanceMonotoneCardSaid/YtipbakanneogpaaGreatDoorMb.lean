/-
  Own library, part 2: an abstract reading of values and a calculus over it; contracts of functions; plain lemmas.
-/
import Derived.TacticsIn
import Derived.Deep.LoopGhost
import Derived.Scope
import Derived.Sort.LoopGhostIn
import Derived.Test.YtipbakanneogpaaGreatDoorMa
set_option linter.unusedVariables false
set_option linter.unusedSimpArgs false
set_option maxRecDepth 100000
open Go renaming Program->qb,World->qd,Value->qf,Operand->qg,TypeId->qc,undef->qU,Oper->zK,FuncId->qx
open List renaming getElem?_eq_some_iff->qk,mem_map->qn,range->qu,mem_cons->qy,getElem?_eq_getElem->qA,not_mem_nil->qG,getElem?_set_self->qL,mem_append->qM,getElem?_append_left->qN,mem_singleton->qV,mem_cons_of_mem->q8,mem_cons_self->zg,all_eq_true->zF,append_nil->zO,getD_eq_getElem?_getD->zS,mem_range->yi,cons_append->yP,mem_append_left->jt,mem_filter->jH,ext_getElem?->jS,nil_append->vw,nodup_cons->vP,getElem?_cons_succ->v6,getElem?_toArray->wt,eq_nil_of_length_eq_zero->Qd,mem_iff_getElem->Zi,nodup_append->ZL
open Nat renaming le_refl->qr,le_of_ble_eq_true->ur,lt_of_lt_of_le->Yk
open Option.some renaming injEq->qv
open Bool renaming and_eq_true->qH,or_eq_true->Zj
open Go.Sem renaming run_bind->qS,run_pure->zN
open Go.Result renaming andThen_ok->qW
open Array renaming getD_eq_getD_getElem?->zc,getElem?_eq_some_iff->yK
open Option renaming map_some->zq
open List.Nodup renaming length_le_of_subset->vb
open Classical renaming byContradiction->wo
open Go.World renaming putObj_heap_other->wu
open List.cons renaming injEq->ZN
namespace Go.Ev
open Go Go.RowKit
section
variable {next:Act->qd->Prop}{h:Array Obj}{Q:Exit->Act->qd->Prop}{G:Gh}{ρ:qg->qf}{P:qb}{w:qd}
@[go_sem] def Ue:AV->Option AV
 | .ip g=>some (.ip g)
 | .ptr b o=>some (.ptr b o)
 | .ifc t x=>some (.ifc t x)
 | .fn (.func f) a b=>some (.fn (.func f) a b)
 |_=>none
@[go_sem] def Xj(i:Nat):AV->Option AV
 | .tup g=>g[i]?
 |_=>none
def ZV(P:qb)(t:qc):Bool:=match P.underlying t with|some (.interface _)=>false|some _=>true|none=>false
@[go_sem] def Uf(P:qb)(t:qc)(ok:Bool)(x:AV):Option AV:=
 if ZV P t=true then
  match x with
  | .ifc u v=>if u=t then some (if ok then .tup [v,.sc (.bool true)] else v) else if ok then (qB P t).map fun z => .tup [z,.sc (.bool false)] else none
  | .sc .nilIface=>if ok then (qB P t).map fun z => .tup [z,.sc (.bool false)] else none
  |_=>none
 else none
@[go_sem] def gS(P:qb)(t:qc)(x:AV):Prop:=
 match x with
 | .lst _ J=>∃ e g i,qJ P t=some (e,g,i)/\yR g J
 |_=>True
def yk(P:qb)(t:qc):Bool:=match qB P t with|some z=>z.cells.all AV.one|none=>false
def evs(ev:qg->AV)(l:List qg):List AV:=l.map ev
def uP(P:qb)(mu:Mu)(b:Builtin)(g:Array qc)(args:List AV)(K:AV->Mu->Prop):Prop:=∃ z m,ExtB P mu b g args z m/\K z m
def qI(P:qb)(pl:Pol)(det:Bool)(g:Option Tmp)(op:Op)(ev:qg->AV)(mu:Mu)(K C:AV->Mu->Prop):Prop:=
 match op with
 | .move x | .assign x=>K (ev x) mu
 | .pick c a b=>∃ t,ev c = .sc (.bool t)/\K (if t then ev a else ev b) mu
 | .alloc e=>OptK (qB P e) fun z=>z.cells.all AV.one=true/\K (.ptr mu.length 0) (mu++[.arr z.cells])
 | .box e x=>(ev x).cells.all AV.one=true/\(if (g.any pl.mt.contains)=true then K (.ptr mu.length 0) (mu++[.arr (ev x).cells]) else K (.ip (ev x).cells) mu)
 | .build t o=>yk P t=true/\OptK (V6 P t (o.toList.map fun p=>(p.1,ev p.2))) fun z=>K z mu
 | .buildSlice t n o=>OptK (V7 P t n (o.toList.map fun p=>(p.1,ev p.2))) fun z=>K z mu
 | .load t a=>OptK (Qf P mu t (ev a)) fun z=>K z mu
 | .store t a x=>OptK (VX P mu t (ev a) (ev x)) fun m=>K (.sc qU) m
 | .nilCheck x=>OptK (Ue (ev x)) fun z=>K z mu
 | .binOp op t x y _=>if wA y=true then vf P det op t (ev x) (fun z=>K z mu) else OptK (Qi P op t (ev x) (ev y)) fun z=>K z mu
 | .unOp op _ x=>OptK (aUn op (ev x)) fun z=>K z mu
 | .convert src g x=>(P.underlying src).isSome=true/\OptK (VZ P src g (ev x)) fun z=>K z mu
 | .makeInterface t x=>ZV P t=true/\K (.ifc t (ev x)) mu
 | .makeFunc f first j=>K (.fn f (evs ev first.toList) (evs ev j.toList)) mu
 | .makeSlice t l c=>OptK (JH P mu t (ev l) (ev c)) fun z=>K z.1 z.2
 | .slice t x I J R=>gS P t (ev x)/\OptK (V5 P t (ev x) (I.map ev) (J.map ev) (R.map ev)) fun z=>K z mu
 | .fieldAddr s x f=>OptK (V0 P s f (ev x)) fun z=>K z mu
 | .field t x f=>OptK (V3 P t f (ev x)) fun z=>K z mu
 | .indexAddr t x i=>OptK (V1 P t (ev x) (ev i)) fun z=>K z mu
 | .index t x i=>OptK (V4 P t (ev x) (ev i)) fun z=>K z mu
 | .extract t i=>OptK (Xj i (ev t)) fun z=>K z mu
 | .typeAssert x _ t ok=>OptK (Uf P t ok (ev x)) fun z=>K z mu
 | .makeMap _ r=>r=none/\K (.mp mu.length) (mu++[.mp []])
 | .lookup t m k ok=>OptK (yB P mu t (ev m) (ev k) ok) fun z=>K z mu
 | .mapUpdate t m k v=>OptK (jV P mu t (ev m) (ev k) (ev v)) fun m=>K (.sc qU) m
 | .insert t m k v=>OptK (jV P mu t (ev m) (ev k) (ev v)) fun m=>K (.sc qU) m
 | .mapEntry t m k=>OptK (Yu P mu t (ev m) (ev k)) fun z=>K z.1 z.2
 | .entryStore _ m s v=>OptK (Xg mu (ev m) (ev s) (ev v)) fun m=>K (.sc qU) m
 | .range t m=>OptK (Ud P mu t (ev m)) fun z=>K z.1 z.2
 | .next i str=>det=false/\str=false/\Xh mu (ev i) K
 | .entry i=>OptK (ZU mu (ev i)) fun z=>K z mu
 | .panic x=>det=false/\∃ t v,ev x = .ifc t v/\C (.ifc t v) mu
 | .call c=>match c.callee with
  | .value f=>qh P det mu (ev f) (evs ev c.args.toList) K C
  | .builtin b=>match b with
   | .append=>∃ s x,evs ev c.args.toList=[s,x]/\qz P mu c.argTypes s x K
   | .copy=>uP P mu .copy c.argTypes (evs ev c.args.toList) K
   | .delete=>uP P mu .delete c.argTypes (evs ev c.args.toList) K
   | .clear=>uP P mu .clear c.argTypes (evs ev c.args.toList) K
   |b=>OptK (uO P mu b c.argTypes (evs ev c.args.toList)) fun z=>K z mu
  | .invoke _ _=>False
 |_=>False
theorem qiA{o:zK}{a s u w'}(g:s.run P w = .ok u w')(i:next (a.put o.dst u) w') :
  o.upon P a next Q ((do pure (Next.value (<-s)):Sem Next).run P w):=by
 grind [qS,qW,zN,Oper.upon]
theorem Ug{o:zK}{a s w'}(g:s.run P w = .ok () w')(i:next (a.put o.dst qU) w') :
  o.upon P a next Q ((do s;pure Next.skip:Sem Next).run P w):=by
 grind [qS,qW,zN,Oper.upon]
theorem Qj{ev}(i:∀ x,VRel G h (ev x) (ρ x))(l:Array qg):ya G h (evs ev l.toList) (l.map ρ):=by
 refine⟨by simp[evs],fun k x g=>?_⟩;simp only[evs,List.getElem?_map,Option.map_eq_some_iff,Array.getElem?_toList]at g;obtain⟨y,j,rfl⟩:=g;simp_all
theorem gT{ev:qg->AV}(g:∀ x,VRel G h (ev x) (ρ x))(l:Array (Nat×qg)) :
  JD G h (l.toList.map fun p=>(p.1,ev p.2)) ((l.map fun (x:Nat×qg)=>(x.1,ρ x.2)).toList):=by
 rw[Array.toList_map];induction l.toList with
 |nil=>trivial
 |cons p j i=>exact⟨rfl,g _,i⟩
theorem s5{xs ys zs a b c}(g:ya G h xs a)(i:ya G h ys b)(j:ya G h zs c):ya G h (xs++ys++zs) (a++b++c):=by
 obtain⟨l,g1⟩:=g;obtain⟨o,r⟩:=i;obtain⟨p,t⟩:=j;refine⟨by simp[l,o,p],fun k x C=>?_⟩;simp only[zc]at *
 by_cases I:k<xs.length
 .grind
 grind
theorem gU{mu}(s:Sim G mu w.heap){f args v fv vs}(rf:VRel G w.heap f fv)(ra:ya G w.heap args vs)
  (h:JR P mu f args v):∃ g first caps,fv = .func (.func g) first caps/\jh P g/\Calls P g (first++vs++caps) w fun e w'=>∃ G' u,e = .returned u/\Stp G mu w G' mu w'/\VRel G' w'.heap v u:=by
 have step:∀(U l:Nat->Prop)(w':qd),(∀ b,G.imm b->U b)->(∀ b,l b->b<w'.heap.size/\(U b\/w.heap.size<=b))->Yq w.heap.size w w'->(∀ b,U b->G.imm b\/Live G mu b) ->
   Stp G mu w ⟨fun b=>G.imm b\/(l b/\w.heap.size<=b),G.blk⟩ mu w':=by
  intro U l w' h1 h2 r h3;have a1:G.le ⟨fun b=>G.imm b\/(l b/\w.heap.size<=b),G.blk⟩:=⟨fun b h => .inl h,fun _ _ h=>h⟩;have he:Ext G w.heap w'.heap:=⟨r.size,fun b p=>r.block b (s.imm b p)⟩;have key:∀ b,Live G mu b->w'.heap[b]?=w.heap[b]?:=fun b hl=>r.block b (s.livesize hl)
  refine⟨a1,⟨s.len,?_,?_,?_,s.inj,s.tab.mono a1.imm (fun b p=>r.block b (s.imm b p))⟩,fun b a2 _=>r.block b a2,r.size,fun b h => .inl h,fun b h=>h.elim .inl (fun e => .inr (.inr e.2)),r.tape,r.os,r.output,r.drawn⟩
  .intro b p
   rcases p with p|p
   .exact Yk (s.imm b p) r.size
   grind
  .intro i c a0 I hc hd hk
   obtain⟨o',g1,g2⟩:=s.obj i c a0 I hc hd hk;exact⟨o',by rw[key a0 ⟨i,_,I,hc,hd,hk⟩];exact g1,g2.mono a1 he⟩
  .intro i c a0 I hc hd hk p
   rcases p with p|p
   .exact s.live i c a0 I hc hd hk p
   .have:=s.livesize ⟨i,c,I,hc,hd,hk⟩;omega
 rcases h with h|⟨g,fi,ca,j,rfl,⟨J,hs⟩,h⟩
 case inr =>
  cases rf with
  |fn _ _ _ t C hn hm hv hw =>
  refine⟨g,t,C,rfl,J,?_⟩;have o:=s5 (G:=G) (h:=w.heap) ⟨hn,hv⟩ ra ⟨hm,hw⟩;obtain⟨hl,hg⟩:=h.get;have R:ya ⟨fun b=>G.imm b\/Live G mu b,[]⟩ w.heap j (t++vs++C):=by
   refine⟨by rw[o.1,hl],fun k y hy=>?_⟩;have hk:k<j.length:=(qk.1 hy).1;have hx:(fi++args++ca)[k]?=some ((fi++args++ca)[k]' zOm):=by rw[qA]
   exact(hg k _ y hx hy).sound s (o.2 k _ hx)
  refine(hs _ w _ (s.all) R).mono fun e w' ⟨nw,u,he,h2,r,hr⟩=>?_
  have T:=step (fun b=>G.imm b\/Live G mu b) nw w' (fun b h => .inl h) (fun b h=>⟨(h2 b h).2,.inr (h2 b h).1⟩) r (fun b h=>h);refine⟨_,u,he,T,hr.le (G':=⟨fun b=>G.imm b\/(nw b/\w.heap.size<=b),G.blk⟩) ⟨fun b p => .inr ⟨p,(h2 b p).1⟩,fun i x h=>by simp at h⟩⟩
 obtain⟨g,fi,ca,j,rfl,⟨J,hs⟩,h⟩:=h;cases rf with
 |fn _ _ _ t C hn hm hv hw =>
 refine⟨g,t,C,rfl,J,?_⟩;have o:=s5 (G:=G) (h:=w.heap) ⟨hn,hv⟩ ra ⟨hm,hw⟩;rcases h with h|⟨h,a3⟩
 .obtain ⟨hl,hg⟩:=h.get
  have R:ya ⟨G.imm,[]⟩ w.heap j (t++vs++C):=by
   refine⟨by rw[o.1,hl],fun k y hy=>?_⟩;have hk:k<j.length:=(qk.1 hy).1;have hx:(fi++args++ca)[k]?=some ((fi++args++ca)[k]' zOm):=by rw[qA]
   exact hg k _ y hx hy G w.heap _ (o.2 k _ hx)
  refine(hs G.imm w _ s.bare R).mono fun e w' ⟨l,u,he,h1,h2,r,hr⟩=>?_
  have T:=step G.imm l w' (fun b h=>h) h2 r (fun b h => .inl h);refine⟨_,u,he,T,?_⟩;refine hr.le ⟨fun b p=>?_,fun i x h=>by simp at h⟩;rcases (h2 b p).2 with h|h
  .exact .inl h
  grind
 .obtain ⟨hl,hg⟩:=h.get
  have R:ya ⟨fun b=>G.imm b\/Live G mu b,[]⟩ w.heap j (t++vs++C):=by
   refine⟨by rw[o.1,hl],fun k y hy=>?_⟩;have hk:k<j.length:=(qk.1 hy).1;have hx:(fi++args++ca)[k]?=some ((fi++args++ca)[k]' zOm):=by rw[qA]
   exact(hg k _ y hx hy).sound s (o.2 k _ hx)
  refine(hs _ w _ (s.all) R).mono fun e w' ⟨l,u,he,h1,h2,r,hr⟩=>?_
  have T:=step _ l w' (fun b h => .inl h) h2 r (fun b h=>h);exact⟨_,u,he,T,a3 _ _ _ _ _ hr⟩
end
end Go.Ev
namespace Go.Ev
open Go Go.RowKit
section
variable {K Kp:AV->Mu->Prop}{a:Act}{G:Gh}{o:zK}{P:qb}{w:qd}
theorem qiB{h x z v}(r:VRel G h x v)(e:Ue x=some z) :
  z=x/\((∃ a,v = .pointer (some a))\/(∃ t u,v = .iface t u)\/(∃ f a b,v = .func (.func f) a b)):=by
 unfold Ue at e;split at e<;>simp only[qv,reduceCtorEq]at e<;>subst e
 .cases r;simp
 .cases r;simp
 .cases r;simp
 .cases r;simp
theorem gV{t}(h:ZV P t=true):∃ d,P.underlying t=some d/\∀ g,d ≠ .interface g:=by
 grind [ZV,absurd]
theorem qiC{U t ok x z v}(r:VRel G w.heap x v)(h:Uf P t ok x=some z) :
  ∃ u,(Instr.typeAssert v U t ok).run P w = .ok u w/\VRel G w.heap z u:=by
 unfold Uf at h;have tup:∀(y:AV)(u:qf)(b:Bool),VRel G w.heap y u->VRel G w.heap (.tup [y,.sc (.bool b)]) (.tuple #[u,.bool b]):=by
  intro y u b ry;refine .tup _ _ rfl (fun k c C=>?_);cases k with
  |zero=>simp_all
  |succ k=>cases k with
   |zero=>simp at C;subst C;exact .sc _ rfl
   |succ k=>simp at C
 split at h
 .rename_i hc
  obtain⟨d,o,p⟩:=gV hc;have zero:∀ z,qB P t=some z->∃ g,(zeroValue t).run P w = .ok g w/\VRel G w.heap z g:=by
   intro z i;obtain⟨g,l,rfl⟩:=ZR i w;exact⟨g,l,.ofV g⟩
  split at h
  .rename_i ut uv
   cases r with
   |ifc _ _ v T =>
   split at h
   .rename_i I
    subst I;simp only[qv]at h;subst h;cases ok
    .refine ⟨v,?_,T⟩
     simp only[Instr.typeAssert,qS,run_underlying o,qW];cases d<;>first | (exact absurd rfl (p _))|simp
    .refine ⟨.tuple #[v,.bool true],?_,tup _ _ _ T⟩
     simp only[Instr.typeAssert,qS,run_underlying o,qW];cases d<;>first | (exact absurd rfl (p _))|simp
   .rename_i I
    split at h
    .rename_i j
     subst j;cases i:qB P t with
     |none=>simp[i]at h
     |some J =>
      simp only[i,zq,qv]at h;subst h;obtain⟨g,l,R⟩:=zero J i;refine⟨.tuple #[g,.bool false],?_,tup _ _ _ R⟩;simp only[Instr.typeAssert,qS,run_underlying o,qW];cases d<;>first | (exact absurd rfl (p _))|simp[I,l]
    grind
  .cases r
   split at h
   .rename_i j
    subst j;cases i:qB P t with
    |none=>simp[i]at h
    |some J =>
     simp only[i,zq,qv]at h;subst h;obtain⟨g,l,R⟩:=zero J i;refine⟨.tuple #[g,.bool false],?_,tup _ _ _ R⟩;simp only[Instr.typeAssert,qS,run_underlying o,qW];cases d<;>first | (exact absurd rfl (p _))|simp[l]
   grind
  grind
 grind
def gW(P:qb)(op:Op)(ev:qg->AV)(mu:Mu)(K:AV->Mu->Prop):Prop:=
 ∃ f args j i R,op = .call { callee := .value f,args,argTypes:=j }/\ev f = .yl i/\Zo P i (evs ev args.toList) mu R/\∀ b m,R b m->K (.sc (.bool b)) m
theorem qiD{pl det mu ev}(s:Sim G mu w.heap)(j:∀ x,VRel G w.heap (ev x) (a.eval x))
  (h:qI P pl det o.dst o.op ev mu K Kp) (hy:¬gW P o.op ev mu K) {next} {Q}
  (hK:∀ v mu' G' w' u,K v mu'->Stp G mu w G' mu' w'->VRel G' w'.heap v u->next (a.put o.dst u) w')
  (a5:∀ v mu' G' w' u,Kp v mu'->Stp G mu w G' mu' w'->VRel G' w'.heap v u->Q (.panic [{ v:=u,recovered:=false }]) a w'):o.wp P a w next Q:=by
 obtain⟨dst,op,ty,pos,after,guard⟩:=o;simp only at h hK a5 hy;have U:∀{c:Sem qf}{x:AV}{mu':Mu},Good P G mu w c x mu'->K x mu'->∀{o':zK},o'.dst=dst->o'.upon P a next Q ((do pure (Next.value (<-c)):Sem Next).run P w):=by
  intro c x mu' ⟨u,w',G',h1,h2,h3⟩ p o' ho
  grind [qiA]
 have quiet:∀{c:Sem qf}{x:AV}{u:qf},c.run P w = .ok u w->VRel G w.heap x u->K x mu->∀{o':zK},o'.dst=dst->o'.upon P a next Q ((do pure (Next.value (<-c)):Sem Next).run P w):=
  fun h1 h2 p _ ho=>U (sY s h1 h2) p ho
 unfold Oper.wp;cases op<;>simp only[qI]at h<;>try (exact h.elim)
 case move x=>exact hK _ _ _ _ _ h (Stp.refl s) (j x)
 case assign x=>exact hK _ _ _ _ _ h (Stp.refl s) (j x)
 case pick c x y =>
  obtain⟨t,hc,p⟩:=h;have rc:=j c;rw[hc]at rc;have ec:a.eval c = .bool t:=by generalize a.eval c=cv at rc;cases rc;rfl
  simp only[execOp,ec,asBool];refine hK _ _ _ _ _ p (Stp.refl s) ?_;cases t
  .exact j y
  grind
 case alloc e =>
  obtain⟨z,C,h1,p⟩:=h;obtain⟨zv,ab,rfl⟩:=ZR C w;obtain⟨G',g1,I,g3⟩:=p7 (P:=P) s e (VRel.ofV zv) h1;refine U ⟨_,_,G',?_,I,g3⟩ p rfl;simp_all[Instr.alloc,qS,qW,zN]
 case box e x =>
  obtain⟨h1,p⟩:=h;split at p
  .obtain ⟨G',g1,I,g3⟩:=p7 (P:=P) s e (j x) h1
   refine U ⟨_,_,G',?_,I,g3⟩ p rfl
   grind [Instr.box,qS,qW,zN]
  .obtain ⟨G',g1,I,g3⟩:=qg4 (P:=P) s e (j x) h1
   refine U ⟨_,_,G',?_,I,g3⟩ p rfl
   grind [Instr.box,qS,qW,zN]
 case build t ps =>
  obtain⟨h1,z,C,p⟩:=h;obtain⟨u,g1,I⟩:=qg3 (P:=P) (w:=w) (gT j ps) (fun y hy=>by grind [yk]) C;exact quiet g1 I p rfl
 case buildSlice t n ps =>
  obtain⟨z,C,p⟩:=h;exact U (qg6 s (gT j ps) C) p rfl
 case load t x =>
  obtain⟨z,C,p⟩:=h;obtain⟨ad,u,g0,g1,I⟩:=pS (P:=P) s (j x) C;refine quiet ?_ I p rfl
  grind [Instr.loadAt,Instr.sureAddr,qS,zN,qW]
 case store t x y =>
  obtain⟨m,hm,p⟩:=h;obtain⟨ad,w',g0,g1,I⟩:=qgH (P:=P) s (j x) (j y) hm;refine Ug (w':=w') ?_ ?_
  .grind [Instr.storeAt,Instr.sureAddr,qS,zN,qW]
  .exact hK _ _ _ _ _ p I (.sc _ rfl)
 case nilCheck x =>
  obtain⟨z,C,p⟩:=h;obtain⟨rfl,hv⟩:=qiB (j x) C;have:(execOp a.eval { dst,op := .nilCheck x,type:=ty,pos,after,guard }).run P w = .ok (.value (a.eval x)) w:=by
   rcases hv with ⟨ad,hv⟩|⟨t,u,hv⟩|⟨f,b,c,hv⟩<;>simp[execOp,hv]
  rw[this];exact hK _ _ _ _ _ p (Stp.refl s) (j x)
 case binOp op t x y yt =>
  split at h
  .rename_i hy
   obtain rfl:=qh7 hy;obtain⟨z,r,p,g1,I⟩:=vf.sound (ox:=x) (oy := .const (.slice none 0 0)) (j x) h;exact quiet g1 I p rfl
  obtain⟨z,C,p⟩:=h;obtain⟨u,g1,I⟩:=qh5 (P:=P) (ox:=x) (oy:=y) (j x) (j y) C;exact quiet g1 I p rfl
 case unOp op t x =>
  obtain⟨z,C,p⟩:=h;obtain⟨u,g1,I⟩:=qgQ (P:=P) (j x) C;exact quiet g1 I p rfl
 case convert src ae x =>
  obtain⟨h1,z,C,p⟩:=h;obtain⟨u,g1,I⟩:=qgR (P:=P) (src:=src) (j x) (Option.isSome_iff_exists.1 h1) C;exact quiet g1 I p rfl
 case makeInterface t x =>
  obtain⟨h1,p⟩:=h;obtain⟨d,hu,hd⟩:=gV h1;refine quiet (u := .iface t (a.eval x)) ?_ (.ifc t _ _ (j x)) p rfl;simp only[Instr.makeInterface,qS,run_underlying hu,qW];cases d<;>first | (exact absurd rfl (hd _))|simp
 case makeFunc f first a1 =>
  refine quiet (u := .func f (first.map a.eval) (a1.map a.eval)) rfl ?_ h rfl;have r1:=Qj j first;have r2:=Qj j a1;exact .fn f _ _ _ _ r1.1 r2.1 r1.2 r2.2
 case makeSlice t l c =>
  obtain⟨z,C,p⟩:=h;exact U (qg7 s (j l) (j c) C) p rfl
 case slice t x lo hi mx =>
  obtain⟨hr,z,C,p⟩:=h;obtain⟨u,g1,I⟩:=qgZ (P:=P) (w:=w) (vlo:=lo.map a.eval) (vhi:=hi.map a.eval) (vmx:=mx.map a.eval) (j x)
   (fun y hy=>by cases lo with|none=>simp at hy|some q=>simp at hy;subst hy;grind) (fun h=>by simp_all)
   (fun y hy=>by cases hi with|none=>simp at hy|some q=>simp at hy;subst hy;grind) (fun h=>by simp_all)
   (fun y hy=>by cases mx with|none=>simp at hy|some q=>simp at hy;subst hy;grind) (fun h=>by simp_all)
   (fun full J e=>by rw[e]at hr;exact hr) C
  exact quiet g1 I p rfl
 case fieldAddr t x f =>
  obtain⟨z,C,p⟩:=h;obtain⟨u,g1,I⟩:=qgS (P:=P) (j x) C;exact quiet g1 I p rfl
 case field t x f =>
  obtain⟨z,C,p⟩:=h;obtain⟨u,g1,I⟩:=qgW (P:=P) (j x) C;exact quiet g1 I p rfl
 case indexAddr t x i =>
  obtain⟨z,C,p⟩:=h;obtain⟨u,g1,I⟩:=qgT (P:=P) (j x) (j i) C;exact quiet g1 I p rfl
 case index t x i =>
  obtain⟨z,C,p⟩:=h;obtain⟨u,g1,I⟩:=qgX (P:=P) (j x) (j i) C;exact quiet g1 I p rfl
 case extract t i =>
  obtain⟨z,C,p⟩:=h;have rt:=j t;unfold Xj at C;split at C
  .rename_i cs e
   rw[e]at rt;generalize hq:a.eval t=tv at rt;cases rt with
   |tup _ vs hn hv =>
   have ai:i<cs.length:=(qk.1 C).1;have a6:i<vs.size:=zOm;refine quiet (u:=vs.getD i qU) ?_ (hv i z C) p rfl;simp[hq,Instr.extract,a6,zc]
  grind
 case typeAssert x xt t ok =>
  obtain⟨z,C,p⟩:=h;obtain⟨u,g1,I⟩:=qiC (P:=P) (j x) C;exact quiet g1 I p rfl
 case makeMap t r =>
  obtain⟨rfl,p⟩:=h;exact U (qhX (P:=P) (t:=t) s) p rfl
 case lookup t m k ok =>
  obtain⟨z,C,p⟩:=h;obtain⟨u,g1,I⟩:=qhM (P:=P) s (j m) (j k) C;exact quiet g1 I p rfl
 case mapUpdate t m k v =>
  obtain⟨m',hm,p⟩:=h;obtain⟨w',g1,I⟩:=gP (P:=P) s (j m) (j k) (j v) hm;exact Ug (w':=w') g1 (hK _ _ _ _ _ p I (.sc _ rfl))
 case insert t m k v =>
  obtain⟨m',hm,p⟩:=h;obtain⟨w',g1,I⟩:=gP (P:=P) s (j m) (j k) (j v) hm;exact Ug (w':=w') g1 (hK _ _ _ _ _ p I (.sc _ rfl))
 case mapEntry t m k =>
  obtain⟨z,C,p⟩:=h;exact U (qhV s (j m) (j k) C) p rfl
 case entryStore t m T v =>
  obtain⟨m',hm,p⟩:=h;obtain⟨w',g1,I⟩:=qhW (P:=P) (t:=t) s (j m) (j T) (j v) hm;exact Ug (w':=w') g1 (hK _ _ _ _ _ p I (.sc _ rfl))
 case range t m =>
  obtain⟨z,C,p⟩:=h;exact U (qhY s (j m) C) p rfl
 case next i str =>
  obtain⟨_,rfl,hn⟩:=h;obtain⟨z,mu',p,hg⟩:=qhZ (P:=P) (ty:=ty) s (j i) hn;exact U hg p rfl
 case entry i =>
  obtain⟨z,C,p⟩:=h;obtain⟨u,g1,I⟩:=qh0 (P:=P) s (j i) C;exact quiet g1 I p rfl
 case panic x =>
  obtain⟨_,t,v,hx,p⟩:=h;have rx:=j x;rw[hx]at rx;generalize hq:a.eval x=xv at rx;cases rx with
  |ifc _ _ u hu =>
  simp only[execOp,hq,Instr.panic];exact a5 _ _ _ _ _ p (Stp.refl s) (.ifc t v u hu)
 case call c =>
  obtain⟨callee,args,argTypes⟩:=c;simp only at h;cases callee with
  |invoke r m=>exact h.elim
  |builtin b =>
   have fin:∀ z,uO P mu b argTypes (evs ev args.toList)=some z->K z mu->Oper.upon P { dst,op := .call { callee := .builtin b,args,argTypes },type:=ty,pos,after,guard } a next Q
     ((execOp a.eval { dst,op := .call { callee := .builtin b,args,argTypes },type:=ty,pos,after,guard }).run P w):=by
    intro z C p;obtain⟨u,g1,I⟩:=qh9 (P:=P) (ty:=ty) (cs:=args.map fun | .const _=>true|_=>false) s (Qj j args) C;have:(execOp a.eval { dst,op := .call { callee := .builtin b,args,argTypes },type:=ty,pos,after,guard }).run P w = .ok (.value u) w:=by
     grind [execOp,resolve,qS,zN,qW,invoke]
    rw[this];exact hK _ _ _ _ _ p (Stp.refl s) I
   have a7:uP P mu b argTypes (evs ev args.toList) K->Oper.upon P { dst,op := .call { callee := .builtin b,args,argTypes },type:=ty,pos,after,guard } a next Q
     ((execOp a.eval { dst,op := .call { callee := .builtin b,args,argTypes },type:=ty,pos,after,guard }).run P w):=by
    intro⟨z,m,C,p⟩;have ra:=Qj j args;obtain⟨u,w',g1,I,g3⟩:=qh2 (P:=P) (ty:=ty) (cs:=args.map fun | .const _=>true|_=>false) s ra.1 ra.2 C;have:(execOp a.eval { dst,op := .call { callee := .builtin b,args,argTypes },type:=ty,pos,after,guard }).run P w = .ok (.value u) w':=by
     grind [execOp,resolve,qS,zN,qW,invoke]
    rw[this];exact hK _ _ _ _ _ p I g3
   cases b<;>simp only at h<;>try (first|exact a7 h | (obtain⟨z,C,p⟩:=h;exact fin z C p))
   obtain⟨sv,xv,hl,a8⟩:=h;have ra:=Qj j args;rw[hl]at ra;obtain⟨u,v,e1,ru,rv⟩:=ra.two_inv;obtain⟨z,mu',p,v',w',G',g1,I,g3⟩:=qhB (ty:=ty) s ru rv a8;have:(execOp a.eval { dst,op := .call { callee := .builtin .append,args,argTypes },type:=ty,pos,after,guard }).run P w = .ok (.value v') w':=by
    simp_all[execOp,resolve,qS,zN,qW,invoke,builtin]
   rw[this];exact hK _ _ _ _ _ p I g3
  |value f =>
   rcases h with ⟨v,hp,p⟩|⟨_,⟨g,fi,ca,R,hf,hs,hr,aj⟩|⟨i,R,hf,hs,p⟩⟩
   .obtain ⟨g,a3,a4,e1,a0,hc⟩:=gU s (j f) (Qj j args) hp
    have:(execOp a.eval { dst,op := .call { callee := .value f,args,argTypes },type:=ty,pos,after,guard }).run P w = .ok (.enter g (a3++args.map a.eval++a4)) w:=by
     simp only[execOp,resolve,qS,zN,qW,e1,Deferred.ofValue,invoke,a0 _ w]
    rw[this];refine hc.mono fun e w' ⟨G',u,he,a9,hu⟩=>?_
    grind
   .have rf:=j f
    rw[hf]at rf;generalize hq:a.eval f=fv at rf;cases rf with
    |fn _ _ _ a3 a4 hn hm hv hw =>
    obtain⟨a0,hs⟩:=hs;have:(execOp a.eval { dst,op := .call { callee := .value f,args,argTypes },type:=ty,pos,after,guard }).run P w = .ok (.enter g (a3++args.map a.eval++a4)) w:=by
     simp only[execOp,resolve,qS,zN,qW,hq,Deferred.ofValue,invoke,a0 _ w]
    rw[this];refine(hs G w _ s (s5 ⟨hn,hv⟩ (Qj j args) ⟨hm,hw⟩)).mono fun e w' ⟨G',mu',a9,h⟩=>?_
    rcases h with ⟨r,v,hR,rfl,aa⟩|⟨r,v,hR,rfl,aa⟩
    .grind
    grind
   .exact (hy ⟨f,args,argTypes,i,R,rfl,hf,hs,p⟩).elim
structure Ro where
 rd:Option Nat
 dl:List Deferred
 mks:Bool
 kp:List (AV×qf)
def Ro.fn:Ro:=⟨none,[],true,[]⟩
def Ro.round(l:Nat):Ro:=⟨some l,[],true,[]⟩
def WF(ro:Ro):Fence:={ Fence.wide with round:=ro.rd }
theorem gY{ro next Q g}(h:o.upon P a next Q g):o.uponIn (WF ro) 0 P a next Q g:=by
 have j:((WF ro).depth.isSome=true->1<=0):=fun h=>by simp[WF,Fence.wide]at h
 cases g with
 |halt i w=>cases i<;>first|exact h|exact h.elim
 |ok n w =>
  cases n
  case value v=>exact h
  case skip=>exact h
  case defer d=>exact h
  case enter f args =>
   refine⟨j,?_⟩;have:=(callsIn_wide (n:=0)).2 h;exact this
  case row row args =>
   refine⟨j,fun c l _=>?_⟩;obtain⟨v,p,r,t⟩:=h c l;exact⟨v,p,r,stepsIn_wide.2 t⟩
  all_goals exact h.elim
theorem Uh{pl det ro mu ev}(s:Sim G mu w.heap)(g:∀ x,VRel G w.heap (ev x) (a.eval x))
  (h:qI P pl det o.dst o.op ev mu K Kp) {next} {Q}
  (I:∀ v mu' G' w' u,K v mu'->Stp G mu w G' mu' w'->VRel G' w'.heap v u->next (a.put o.dst u) w')
  (r:∀ v mu' G' w' u,Kp v mu'->Stp G mu w G' mu' w'->VRel G' w'.heap v u->Q (.panic [{ v:=u,recovered:=false }]) a w'):o.wpIn (WF ro) 0 P a w next Q:=by
 have J:∀ c,o.op ≠ .defer c:=by
  grind [qI]
 refine⟨fun _ _=>trivial,?_⟩;rw[show (WF ro).round=ro.rd from rfl,Oper.semAt_eq _ _ _ J];by_cases hy:gW P o.op ev mu K
 .obtain ⟨f,args,T,i,R,ho,hf,hs,hk⟩:=hy
  obtain⟨dst,op,ty,pos,after,guard⟩:=o;simp only at ho I r⊢;subst ho;have U:=g f;rw[hf]at U;generalize hq:a.eval f=fv at U;cases U with
  |yl _ l a0 hb =>
  obtain⟨fn,t,a1,C,h1,h2⟩:=hs G w (args.map a.eval) s (Qj g args) l a0 hb;have:(execOp a.eval { dst,op := .call { callee := .value f,args,argTypes:=T },type:=ty,pos,after,guard }).run P w = .ok (.round l fn t a1 C) w:=by
   grind [execOp,resolve,qS,zN,qW,Deferred.ofValue,invoke]
  rw[this];refine⟨fun h=>by simp[WF,Fence.wide]at h,?_⟩;refine RoundIn.mono (F:=WF ro) (n:=0) h2 ?_;rintro e w' ⟨b,G',mu',rfl,a2,hR⟩;exact I _ _ _ _ _ (hk b mu' hR) a2 (.sc _ rfl)
 .exact gY (qiD s g h hy I r)
end
end Go.Ev
namespace Go.Ev
open Go Go.RowKit
section
variable {ops:Array zK}
def pe(o:zK):List Edge:=o.after.toList.filter (Region.binds .any)
theorem Xk{e}(h:Region.binds .any e=true)(m):Region.binds m e=true:=by
 grind [Region.binds,absurd]
def Zp(ops:Array zK)(i:Nat):List Nat:=match ops[i]? with|some o=>(pe o).map (·.on)|none=>[]
def gZ(ops:Array zK):Bool:=(qu ops.size).all fun i=>match ops[i]? with|some o=>o.after.toList.all fun e=>decide (e.on<i)||!Region.binds .text e|none=>true
def g7(ops:Array zK):Bool:=(qu ops.size).all fun i=>match ops[i]? with|some o=>o.after.toList.all fun e=>decide (e.on<i)|none=>true
def g8(ops:List zK):Nat->List Nat->List Nat
 | 0,g=>g.reverse
 |n+1,g=>match (qu ops.length).find? fun i=>!g.contains i&&(match ops[i]? with|some o=>o.after.toList.all fun e=>!Region.binds .gc e||g.contains e.on|none=>false) with
  |some i=>g8 ops n (i :: g)
  |none=>g.reverse
def Xl(ops:Array zK)(L:List Nat):Bool:=decide (L.length=ops.size)&&(qu L.length).all fun p=>match L[p]? with
 |some i=>!(L.take p).contains i&&(match ops[i]? with|some o=>o.after.toList.all fun e=>!Region.binds .gc e||(L.take p).contains e.on|none=>false)
 |none=>false
def jM(ops:Array zK):Bool:=gZ ops&&(g7 ops||Xl ops (g8 ops.toList ops.size []))
theorem Xm(h:jM ops=true):∀ i o,ops[i]?=some o->∀ e,e∈o.after.toList->Region.binds .text e=true->e.on<i:=by
 intro i o g e j l;unfold jM at h;rw[qH]at h
 grind [gZ,zF,yK]
theorem ng{o e}(h:e∈pe o):e∈o.after.toList/\Region.binds .text e=true:=⟨(jH.1 h).1,Xk (jH.1 h).2 .text⟩
def Topo(ops:Array zK)(L:List Nat):Prop:=∀ pre j post,L=pre++j :: post->j<ops.size/\j ∉ pre/\∀ e,e∈Zp ops j->e∈pre
theorem Topo.nil(ops):Topo ops []:=fun pre j post h=>by simp at h
theorem Topo.snoc{L j}(h:Topo ops L)(i:j<ops.size)(l:j ∉ L)(o:∀ e,e∈Zp ops j->e∈L):Topo ops (L++[j]):=by
 intro pre k post e;rcases List.eq_nil_or_concat post with rfl|⟨g,x,rfl⟩
 .simp_all
 .rw [<-List.concat_eq_append,List.concat_eq_append,List.concat_eq_append,<-yP,<-List.append_assoc]at e
  have:=List.append_inj' e rfl;exact h pre k g this.1
theorem qiE(acc:List Nat){n}:∀ i,i<n->i ∉ acc->∃ j,j<n/\j ∉ acc/\∀ k,k<j->k∈acc:=by
 intro i;induction i using Nat.strongRecOn with
 |_ i g =>
  grind
theorem Xn{m}(g:∀ i o,ops[i]?=some o->∀ e,e∈o.after.toList->Region.binds m e=true->e.on<i)(acc:List Nat)(l:∃ i,i<ops.size/\i ∉ acc) :
  ∃ j,j<ops.size/\j ∉ acc/\∀ o,ops[j]?=some o->∀ e,e∈o.after.toList->Region.binds m e=true->e.on∈acc:=by
 grind [qiE]
theorem qiF{L}(h:Xl ops L=true)(acc:List Nat)(C:∃ i,i<ops.size/\i ∉ acc) :
  ∃ j,j<ops.size/\j ∉ acc/\∀ o,ops[j]?=some o->∀ e,e∈o.after.toList->Region.binds .gc e=true->e.on∈acc:=by
 unfold Xl at h;rw[qH,decide_eq_true_eq,zF]at h;obtain⟨a2,I⟩:=h;have I:∀ p,p<L.length->∃ i,L[p]?=some i/\i ∉ L.take p/\∃ o,ops[i]?=some o/\∀ e,e∈o.after.toList->Region.binds .gc e=true->e.on∈L.take p:=by
  intro p l;have:=I p (zUs l)
  grind
 have J:L.Nodup:=by
  grind [List.Nodup,List.pairwise_iff_getElem,qA,qv,Zi]
 have P:∀ x,x∈L->x<ops.size:=by
  intro x r;obtain⟨p,l,e⟩:=Zi.1 r;obtain⟨y,R,_,o,ho,_⟩:=I p l;rw[qA l]at R;simp only[qv]at R;rw[<-e,R];exact(yK.1 ho).1
 have t:∀ i,i<ops.size->i∈L:=by
  intro i T;refine wo fun hn=>?_
  have h1:(i :: L).length<=(qu ops.size).length:=vb (vP.2 ⟨hn,J⟩) (fun k U=>by
   rcases qy.1 U with rfl|U
   .simpa using T
   .simpa using P k U)
  simp at h1;omega
 obtain⟨i,T,a0⟩:=C;have key:∀ n p,L.length=p+n->(∀ x,x∈L.take p->x∈acc)->∃ q,q<L.length/\(∀ x,x∈L.take q->x∈acc)/\∀ x,L[q]?=some x->x ∉ acc:=by
  intro n;induction n with
  |zero =>
   intro p a1 r;rw[List.take_of_length_le zOm]at r;exact absurd (r i (t i T)) a0
  |succ n ih =>
   intro p a1 r;by_cases hc:L[p]' zOm∈acc
   .refine ih (p+1) zOm fun x g=>?_
    rw[List.take_add_one,qA zOm]at g;rcases qM.1 g with h|h
    .exact r x h
    .simp at h;rw[h];exact hc
   .refine ⟨p,zOm,r,fun x g=>?_⟩
    rw[qA zOm]at g;simp only[qv]at g;rw[<-g];exact hc
 obtain⟨q,hq,h1,h2⟩:=key L.length 0 zOm zSp
 grind
theorem qiG(h:jM ops=true)(m)(acc:List Nat)(g:∃ i,i<ops.size/\i ∉ acc) :
  ∃ j,j<ops.size/\j ∉ acc/\∀ o,ops[j]?=some o->∀ e,e∈o.after.toList->Region.binds m e=true->e.on∈acc:=by
 have r:=Xm h;cases m with
 |text=>exact Xn r acc g
 |any=>exact Xn (fun i o t e C l=>r i o t e C (Xk l .text)) acc g
 |gc =>
  unfold jM at h;rw[qH,Zj]at h;rcases h.2 with p|p
  .refine Xn (fun i o t e C _=>?_) acc g
   unfold g7 at p
   grind
  .exact qiF p acc g
theorem qiH(r:jM ops=true)(m):∀ fuel t listed acc,fuel+acc.length=ops.size->listed.size=ops.size ->
  (∀ i,i<ops.size->(listed.getD i true=true↔i∈acc))->Topo ops acc.reverse->acc.Nodup->(∀ i,i∈acc->i<ops.size) ->
  Topo ops (Region.linearise.go m ops fuel t listed acc)/\(Region.linearise.go m ops fuel t listed acc).length=ops.size:=by
 have T:=Xm r;have g:=qiG r m;intro fuel;induction fuel with
 |zero =>
  grind [Region.linearise.go]
 |succ fuel ih =>
  intro t listed acc hf hs hl ht hn hb;simp only[Region.linearise.go];generalize U:((qu ops.size).filter fun i=>!listed.getD i true&&((ops[i]?).map (·.after.all fun e=>!Region.binds m e||listed.getD e.on false)).getD false)=l;have C:∀ i,i∈l->i<ops.size/\i ∉ acc/\∀ e,e∈Zp ops i->e∈acc:=by
   intro i o;rw[<-U,jH]at o;obtain⟨R,h2⟩:=o;have R:i<ops.size:=zUs R;simp only[qH,Bool.not_eq_true']at h2;refine⟨R,fun h=>?_,fun e p=>?_⟩
   .grind
   .unfold Zp at p
    have ho:ops[i]?=some ops[i]:=zP1 R;rw[ho]at p;simp only[qn]at p;obtain⟨x,a0,rfl⟩:=p;obtain⟨hx,a1⟩:=jH.1 a0;have h3:=h2.2;rw[ho]at h3;simp only[zq,Option.getD_some]at h3;have h4:=(Array.all_eq_true'.1 h3) x (zUs hx);rw[Xk a1 m]at h4
    grind
  have a2:l≠[]:=by
   have a3:∃ i,i<ops.size/\i ∉ acc:=by
    refine wo fun a4=>?_
    have I:∀ i,i<ops.size->i∈acc:=fun i o=>wo fun h=>a4 ⟨i,o,h⟩
    have:(qu ops.size).length<=acc.length:=vb (List.nodup_range) (fun i o=>I i (zUs o));simp at this;omega
   obtain⟨j,hj,a7,a6⟩:=g acc a3
   grind
  have J:0<l.length:=List.length_pos_iff.2 a2;have P:t % l.length<l.length:=Nat.mod_lt _ J;rw[qA P];simp only;obtain⟨g1,g2,g3⟩:=C _ (List.getElem_mem P);generalize l[t % l.length]=i at g1 g2 g3;refine ih _ _ _ zSo (zP1 hs) ?_ ?_ (vP.2 ⟨g2,hn⟩) (fun k hk=>?_)
  .intro k hk
   by_cases a5:k=i
   .subst a5
    have:k<listed.size:=zOm;simp[zc,this]
   .have:=hl k hk
    simp only[zc]at this⊢
    grind
  .rw [List.reverse_cons]
   exact ht.snoc g1 (zUs g2) (fun e p=>by simpa using g3 e p)
  grind
theorem nh(j:jM ops=true)(g t):Topo ops (Region.schedule g ops t)/\(Region.schedule g ops t).length=ops.size:=by
 have key:∀(m:Region.Mode)(t:Nat),Topo ops (Region.linearise m ops t)/\(Region.linearise m ops t).length=ops.size:=by
  intro m t;unfold Region.linearise;exact qiH j m ops.size t _ [] zSp zSp (fun i l=>by simp[zc,l]) (Topo.nil ops) List.nodup_nil zSp
 unfold Region.schedule;split
 .exact key _ _
 .exact key _ _
def Qk(acc:List Nat)(o:zK):Nat:=(pe o).foldl (fun s e=>s ||| (2 ^ e.on ||| acc.getD e.on 0)) 0
def uQ:List zK->List Nat->List Nat
 | [],g=>g
 |o :: l,g=>uQ l (g++[Qk g o])
theorem nj:∀ l acc,∃ r,uQ l acc=acc++r/\r.length=l.length
 | [],acc=>⟨[],by simp[uQ],rfl⟩
 |o :: l,acc=>by
  obtain⟨r,g,i⟩:=nj l (acc++[Qk acc o])
  grind [Qk,uQ]
theorem nq(f:Edge->Nat)(i):∀(l:List Edge)(s),(l.foldl (fun s e=>s ||| f e) s).testBit i=true->s.testBit i=true\/∃ e,e∈l/\(f e).testBit i=true
 | [],s,h => .inl h
 |e :: l,s,h=>by
  simp only[List.foldl_cons]at h;rcases nq f i l _ h with h|⟨g,j,o⟩
  .grind
  grind
def ja(ops:Array zK)(j:Nat):Nat:=(uQ ops.toList []).getD j 0
theorem nr:∀ l acc k o,l[k]?=some o->(∀ e,e∈(pe o)->e.on<acc.length+k) ->
  (uQ l acc).getD (acc.length+k) 0=(pe o).foldl (fun s e=>s ||| (2 ^ e.on ||| (uQ l acc).getD e.on 0)) 0
 | [],acc,k,o,h,_=>by simp at h
 |x :: l,acc,k,o,h,i=>by
  simp only[uQ];cases k with
  |zero =>
   simp at h;subst h;obtain⟨r,j,t⟩:=nj l (acc++[Qk acc x]);rw[j];have p:(acc++[Qk acc x]++r).getD (acc.length+0) 0=Qk acc x:=by simp[zS]
   rw[p];unfold Qk;have key:∀(U:List Edge)(s:Nat),(∀ e,e∈U->e.on<acc.length)->U.foldl (fun s e=>s ||| (2 ^ e.on ||| acc.getD e.on 0)) s=U.foldl (fun s e=>s ||| (2 ^ e.on ||| (acc++[(pe x).foldl (fun s e=>s ||| (2 ^ e.on ||| acc.getD e.on 0)) 0]++r).getD e.on 0)) s:=by
    intro U;induction U with
    |nil=>intro s _;rfl
    |cons e U C =>
     grind
   grind
  |succ k =>
   have:=nr l (acc++[Qk acc x]) k o (zUs h) (fun e g=>by have:=i e g;simp;omega);rw[show (acc++[Qk acc x]).length+k=acc.length+(k+1) by simp;omega]at this;exact this
theorem qiI(l:jM ops=true){j i}(r:j<ops.size)(h:(ja ops j).testBit i=true):∃ e,e∈Zp ops j/\(i=e\/(ja ops e).testBit i=true):=by
 have g:=Xm l;have o:ops[j]?=some ops[j]:=zP1 r;have t:Zp ops j=(pe ops[j]).map (·.on):=by unfold Zp;rw[o]
 have:=nr ops.toList [] j ops[j] zSp (fun e p=>by
  have:=g j _ o e (ng p).1 (ng p).2;simp;omega)
 simp only[List.length_nil,Nat.zero_add]at this;unfold ja at h⊢;rw[this]at h;rcases nq _ i _ _ h with h|⟨e,C,I⟩
 .simp at h
 grind
def Xo(ops:Array zK)(S:Nat->Prop):Prop:=∀ j,S j->j<ops.size/\∀ i,(ja ops j).testBit i=true->S i
theorem Xo.mask(g:jM ops=true){S}(r:Xo ops S){j}(t:j<ops.size)(o:∀ e,e∈Zp ops j->S e) :
  ∀ i,(ja ops j).testBit i=true->S i:=by
 intro i C;obtain⟨e,p,l⟩:=qiI g t C;rcases l with rfl|l
 .exact o i p
 .exact (r e (o e p)).2 i l
def Bef(L:List Nat)(i k:Nat):Prop:=∀ p q,L=p++k :: q->i∈p
theorem s6:∀{L i k},i∈L->k∈L->i≠k->Bef L i k\/Bef L k i
 | [],i,k,h,_,_=>absurd h zSp
 |x :: l,i,k,I,J,g=>by
  have cons:∀{i k:Nat},Bef l i k->x≠k->Bef (x :: l) i k:=by
   intro i k h P p q e;cases p with
   |nil=>grind
   |cons y t =>
    simp only[yP,ZN]at e;exact q8 _ (h t q e.2)
  have head:∀{k:Nat},x≠k->Bef (x :: l) x k:=by
   intro k P p q e;cases p with
   |nil=>grind
   |cons y t =>
    grind
  by_cases j:x=i
  .subst j;exact .inl (head g)
  .by_cases C:x=k
   .grind
   .have o:i∈l:=by simpa[Ne.symm j] using I
    have r:k∈l:=by simpa[Ne.symm C] using J
    rcases s6 o r g with h|h
    .exact .inl (cons h C)
    .exact .inr (cons h j)
theorem Topo.pre{p j}(h:Topo ops (p++[j])):Topo ops p:=fun pre k post e=>h pre k (post++[j]) (by rw[e];simp)
theorem s7:∀(q){p},Topo ops (p++q)->Topo ops p
 | [],p,h=>zUs h
 |j :: q,p,h=>by
  grind [Topo]
theorem s8(o:jM ops=true):∀ n p,p.length=n->Topo ops p->Xo ops (·∈p)/\p.Nodup:=by
 intro n;induction n with
 |zero=>intro p l _;have:=Qd l;subst this;exact⟨fun j r=>by simp at r,List.nodup_nil⟩
 |succ n R =>
  intro p l J;rcases List.eq_nil_or_concat p with rfl|⟨P,j,rfl⟩
  .simp at l
  .rw [List.concat_eq_append]at *
   obtain⟨t,hn⟩:=R P (zUs l) J.pre;obtain⟨r,T,C⟩:=J P j [] rfl;have I:=t.mask o r C;refine⟨fun k g=>?_,?_⟩
   .rcases qM.1 g with g|g
    .exact ⟨(t k g).1,fun i U=>qM.2 (.inl ((t k g).2 i U))⟩
    grind
   grind
theorem Topo.bef(g:jM ops=true){L}(l:Topo ops L){i k}(h:(ja ops k).testBit i=true):Bef L i k:=by
 intro p q e;obtain⟨o,_,j⟩:=l p k q e;have r:=(s8 g _ p rfl (s7 (k :: q) (by rw[<-e];exact l))).1;exact r.mask g o j i h
end
end Go.Ev
namespace Go.Ev
open Go Go.RowKit
section
variable {G G':Gh}{dl:List Deferred}{mu:Mu}{i:Nat}{w w':qd}
theorem Yv{j c}(h:(mu.set i .dead)[j]?=some c)(g:c ≠ .dead):j≠i/\mu[j]?=some c:=by
 grind
theorem Live.hid{b}(h:Live G (mu.set i .dead) b):Live G mu b:=by
 obtain⟨j,c,g,o,l,p⟩:=h;exact⟨j,c,g,(Yv o l).2,l,p⟩
theorem Sim.hid{h}(s:Sim G mu h)(i):Sim G (mu.set i .dead) h:=by
 refine⟨by simpa using s.len,s.imm,fun j c g l r o p=>s.obj j c g l (Yv r o).2 o p,fun j c g l r o p=>s.live j c g l (Yv r o).2 o p,?_,s.tab⟩;intro j k C I b J tk r o p t P R;exact s.inj j k C I b J tk (Yv r p).2 (Yv o t).2 p t P R
theorem Sim.hid_not{h}(s:Sim G mu h){i b t c}(p:mu[i]?=some c)(r:c ≠ .dead)(C:G.blk[i]?=some (b,t)):¬Live G (mu.set i .dead) b:=by
 rintro⟨j,I,g,J,o,P⟩;obtain⟨l,R⟩:=Yv J o;exact l (s.inj j i I c b g t R p o r P C)
theorem Stp.unhid{M m b t c}(s:Sim G M w.heap)(hc:M[i]?=some c)(hd:c ≠ .dead)(hb:G.blk[i]?=some (b,t))(T:Stp G (M.set i .dead) w G' m w') :
  m[i]?=some .dead/\w'.heap[b]?=w.heap[b]?/\Stp G M w G' (m.set i c) w':=by
 have hn:=s.hid_not hc hd hb;obtain⟨o,ho,hr⟩:=s.obj i c b t hc hd hb;have a0:b<w.heap.size:=(yK.1 ho).1;have hk:w'.heap[b]?=w.heap[b]?:=T.keep b a0 hn;have r:G'.blk[i]?=some (b,t):=T.le.blk _ _ hb;have P:¬Live G' m b:=fun h=>(T.live b h).elim hn (fun g=>absurd a0 (Nat.not_lt.2 g))
 have hi:i<m.length:=by rw[<-T.sim.len];grind
 have hm:m[i]?=some .dead:=by
  have e:m[i]?=some m[i]:=qA hi;rw[e];by_cases hq:m[i] = .dead
  .rw [hq]
  .exact absurd ⟨i,m[i],t,e,hq,r⟩ P
 have a1:¬G'.imm b:=fun h=>by
  rcases T.inew b h with h|h|h
  .exact s.live i c b t hc hd hb h
  .exact hn h
  omega
 have a2:Ext G w.heap w'.heap:=T.ext (s.hid i);have l:∀(j:Nat)(x:Cell),(m.set i c)[j]?=some x->x ≠ .dead->(j=i/\x=c)\/(j≠i/\m[j]?=some x):=by
  intro j x hj hx;by_cases e:i=j
  .grind
  grind
 refine⟨hm,hk,T.le,⟨by simpa using T.sim.len,T.sim.imm,?_,?_,?_,T.sim.tab⟩,?_,T.size,?_,?_,T.tape,T.os,T.output,T.drawn⟩
 .intro j x R C U I p
  rcases l j x U I with ⟨rfl,rfl⟩|⟨_,J⟩
  .rw [r]at p
   obtain⟨rfl,rfl⟩:=Prod.mk.inj (Option.some.inj p);exact⟨o,by rw[hk];exact ho,hr.mono T.le a2⟩
  .exact T.sim.obj j x R C J I p
 .intro j x R C U I p
  rcases l j x U I with ⟨rfl,rfl⟩|⟨_,J⟩
  .rw [r]at p
   obtain⟨rfl,rfl⟩:=Prod.mk.inj (Option.some.inj p);exact a1
  .exact T.sim.live j x R C J I p
 .intro j k cj ck b' tj tk U I p J h5 h6
  rcases l j cj U p with ⟨rfl,rfl⟩|⟨e1,g1⟩<;>rcases l k ck I J with ⟨rfl,rfl⟩|⟨e2,g2⟩
  .rfl
  .rw [r]at h5
   obtain⟨rfl,rfl⟩:=Prod.mk.inj (Option.some.inj h5);exact absurd ⟨k,ck,tk,g2,J,h6⟩ P
  .rw [r]at h6
   obtain⟨rfl,rfl⟩:=Prod.mk.inj (Option.some.inj h6);exact absurd ⟨j,cj,tj,g1,p,h5⟩ P
  .exact T.sim.inj j k cj ck b' tj tk g1 g2 p J h5 h6
 .intro x hx hl
  exact T.keep x hx (fun h=>hl h.hid)
 .rintro x ⟨j,cj,C,U,I,p⟩
  rcases l j cj U I with ⟨rfl,rfl⟩|⟨_,J⟩
  .rw [r]at p
   obtain⟨rfl,rfl⟩:=Prod.mk.inj (Option.some.inj p);exact .inl ⟨j,cj,t,hc,hd,hb⟩
  .exact (T.live x ⟨j,cj,C,J,I,p⟩).imp (fun h=>h.hid) id
 .intro x hx
  rcases T.inew x hx with h|h|h
  .exact .inl h
  .exact .inr (.inl h.hid)
  .exact .inr (.inr h)
theorem Stp.drop{M}(s:Sim G M w.heap)(i):Stp G M w G (M.set i .dead) w:=
 ⟨.refl G,s.hid i,fun _ _ _=>rfl,qr _,fun _ h => .inl h.hid,fun _ h => .inl h,rfl,rfl,rfl,qr _⟩
theorem Sim.putOther{M}(s:Sim G M w.heap){D o}(I:¬Live G M D)(J:¬G.imm D):Sim G M (w.putObj D o).heap:=by
 have g:Ext G w.heap (w.putObj D o).heap:=⟨zSp,fun b p=>wu (fun e=>J (e ▸ p))⟩;refine⟨s.len,fun b p=>by have:=s.imm b p;simp_all,?_,s.live,s.inj,s.tab.mono (fun _ h=>h) g.keep⟩;intro j x i l r t C;obtain⟨P,R,T⟩:=s.obj j x i l r t C;refine⟨P,?_,T.mono (.refl G) g⟩;rw[wu (fun (e:i=D)=>I ⟨j,x,l,r,t,e ▸ C⟩)];exact R
structure Mk (G:Gh) (mu:Mu) (h:Array Obj) (D:Nat):Prop where
 obj:h[D]?=some (.deferred (some []))
 nlive:¬Live G mu D
 nimm:¬G.imm D
theorem Mk.step{mu' D}(m:Mk G mu w.heap D)(t:Stp G mu w G' mu' w'):Mk G' mu' w'.heap D:=by
 have i:D<w.heap.size:=(yK.1 m.obj).1;refine⟨by rw[t.keep D i m.nlive];exact m.obj,fun h=>?_,fun h=>?_⟩
 .exact (t.live D h).elim m.nlive (fun g=>absurd i (Nat.not_lt.2 g))
 .rcases t.inew D h with h|h|h
  .exact m.nimm h
  .exact m.nlive h
  omega
def mkOf(D:Nat):Deferred:={ target := .collected D,args:=#[] }
def Dfs(dl:List Deferred)(mk:Bool)(base:Nat)(G:Gh)(mu:Mu)(h:Array Obj)(ds:List Deferred):Prop:=∃ g:List Nat,(ds=g.map mkOf++dl/\(mk=false->g=[]))/\g.Nodup/\∀ D,D∈g->base<=D/\Mk G mu h D
theorem Dfs.nil(dl mk base G mu h):Dfs dl mk base G mu h dl:=⟨[],⟨rfl,fun _=>rfl⟩,List.nodup_nil,zSp⟩
theorem Dfs.step{mk base mu' ds}(d:Dfs dl mk base G mu w.heap ds)(t:Stp G mu w G' mu' w'):Dfs dl mk base G' mu' w'.heap ds:=by
 obtain⟨j,l,o,g⟩:=d;exact⟨j,l,o,fun D i=>⟨(g D i).1,(g D i).2.step t⟩⟩
def wB:List Nat->qd->qd
 | [],w=>w
 | D :: g,w=>wB g (w.putObj D (.deferred none))
theorem Xp{P F n fn g R u}(l:u ≠ .run):∀ i w,i.Nodup->(∀ D,D∈i->w.heap[D]?=some (.deferred (some []))) ->
  LeavesInM F n P fn g R dl u (wB i w)->LeavesInM F n P fn g R (i.map mkOf++dl) u w
 | [],w,_,_,h=>h
 | D :: i,w,o,p,h=>by
  obtain⟨r,j⟩:=vP.1 o;refine⟨l,.inl ⟨D,w.putObj D (.deferred none),rfl,run_takeDeferred (p D zSp),Xp l i _ j (fun E t=>?_) h⟩⟩
  grind [wu]
theorem nu{o i l}:∀ j w,j.Nodup->(∀ D,D∈j->l.heap.size<=D/\Mk G mu w.heap D)->Stp o i l G mu w ->
  Stp o i l G mu (wB j w)/\Ext G w.heap (wB j w).heap
 | [],w,_,_,t=>⟨t,Ext.refl _ _⟩
 | D :: j,w,R,p,t=>by
  obtain⟨r,C⟩:=vP.1 R;obtain⟨hb,I⟩:=p D zSp;have t1:Stp o i l G mu (w.putObj D (.deferred none)):=by
   refine⟨t.le,t.sim.putOther I.nlive I.nimm,fun b g T=>?_,by simpa using t.size,t.live,t.inew,t.tape,t.os,t.output,t.drawn⟩;rw[wu zOm];exact t.keep b g T
  obtain⟨U,P⟩:=nu j (w.putObj D (.deferred none)) C (fun E J=>⟨(p E (zP1 J)).1,by
   have m:=(p E (zP1 J)).2;exact⟨by rw[wu (fun (e:E=D)=>r (e ▸ J))];exact m.obj,m.nlive,m.nimm⟩⟩) t1
  .refine ⟨U,⟨Nat.le_trans zSp P.size,fun b g=>?_⟩⟩
   have:=P.keep b g;simp only[wB];rw[this,wu (fun (e:b=D)=>I.nimm (e ▸ g))]
end
end Go.Ev
namespace Go.Ev
open Go Go.RowKit
section
variable {a:Act}{ops:Array zK}{G:Gh}{g m mu mu':Mu}{o:zK}{ev':qg->AV}{pl:Pol}{P:qb}{st:St}{w:qd}
def Br(b:Bool)(p q:Prop):Prop:=(b=true->p)/\(b=false->q)
def Yw:AV->Bool->Option Bool
 | .sc (.bool b),g=>some (b == g)
 | .sc _,_=>some false
 |_,_=>none
def yG(ops:Array zK)(st:St)(o:zK):Option Bool:=
 match o.guard with
 |none=>some true
 |some (j,g)=>match (ops[j]?).bind (·.dst) with
  |none=>some false
  |some d=>Yw (st.tm d) g
def awpS(P:qb)(pl:Pol)(det:Bool)(ops:Array zK):List zK->(St->Prop)->(AV->St->Prop)->St->Prop
 | [],Q,_,T=>Q T
 |o :: l,Q,g,T=>OptK (yG ops T o) fun b =>
   Br b (qI P pl det o.dst o.op T.ev T.mu (fun v m=>awpS P pl det ops l Q g (T.put o.dst v m)) (fun v m=>g v ⟨T.tm,m⟩)) (awpS P pl det ops l Q g (T.put o.dst (.sc qU) T.mu))
structure Rel (ro:Ro) (G0:Gh) (mu0:Mu) (w0:qd) (n:Nat) (G:Gh) (st:St) (a:Act) (w:qd):Prop where
 tm:∀ i,VRel G w.heap (st.tm i) (a.tmps.getD i qU)
 df:ro.rd=none->Dfs ro.dl ro.mks w0.heap.size G st.mu w.heap a.defers
 size:a.tmps.size=n
 stp:Stp G0 mu0 w0 G st.mu w
 kp:∀ p,p∈ro.kp->VRel G w.heap p.1 p.2
theorem Rel.ev{ro j i l n}(r:Rel ro j i l n G st a w)(x):VRel G w.heap (st.ev x) (a.eval x):=by
 cases x with
 |tmp t=>exact r.tm t
 |const v=>exact .ofV v
 |global g=>exact .any _
 |func f=>exact .fn _ [] [] _ _ rfl rfl zSp zSp
def dOk(n:Nat):Option Tmp->Bool|some d=>decide (d<n)|none=>true
theorem Rel.put{ro j l n G' w' v u d}(I:Sim j g l.heap)(r:Rel ro j g l n G st a w)(t:Stp G st.mu w G' m w')(P:VRel G' w'.heap v u)
  (o:dOk n d=true):Rel ro j g l n G' (st.put d v m) (a.put d u) w':=by
 refine⟨fun i=>?_,?_,?_,r.stp.trans I t,fun p J=>t.vrel r.stp.sim (r.kp p J)⟩
 .cases d with
  |none=>exact t.vrel r.stp.sim (r.tm i)
  |some d =>
   simp only[dOk,decide_eq_true_eq]at o;simp only[St.put,Act.put];by_cases C:i=d
   .subst C
    rw[if_pos rfl];have:i<a.tmps.size:=by rw[r.size];exact o
    simp_all
   .rw [if_neg C]
    have:(a.tmps.setIfInBounds d u).getD i qU=a.tmps.getD i qU:=by
     simp only[zc]
     grind
    rw[this];exact t.vrel r.stp.sim (r.tm i)
 .intro h
  have:=(r.df h).step t;cases d<;>exact this
 .cases d with
  |none=>exact r.size
  |some d=>simp[Act.put,r.size]
theorem Rel.drew{ro i j n}(l:Sim i g j.heap)(r:Rel ro i g j n G st a w):Rel ro i g j n G st a w.drew:=
 ⟨r.tm,r.df,r.size,r.stp.trans l (Stp.drew r.stp.sim),r.kp⟩
theorem Ui{ro C l I n}(r:Rel ro C l I n G st a w){ops o b}(h:yG ops st o=some b):Region.wanted o (yielded ops a.tmps)=b:=by
 unfold yG at h;unfold Region.wanted;cases i:o.guard with
 |none=>rw[i]at h;simpa using h
 |some q =>
  obtain⟨j,t⟩:=q;rw[i]at h;simp only at h⊢;unfold yielded;cases J:(ops[j]?).bind (·.dst) with
  |none=>grind
  |some d =>
   rw[J]at h;simp only[Option.bind_some]at h⊢;have rd:=r.tm d;have g:a.tmps[d]?=some (a.tmps.getD d qU)\/a.tmps[d]?=none/\a.tmps.getD d qU=qU:=by
    simp only[zc]
    grind
   unfold Yw at h;split at h
   .rename_i P p
    simp only[qv]at h;subst h;rw[p]at rd;generalize a.tmps.getD d qU=v at rd g;cases rd;rcases g with i|⟨_,i⟩
    .grind
    .exact absurd i (by simp[qU])
   .rename_i v R p
    simp only[qv]at h;subst h;rw[p]at rd;generalize a.tmps.getD d qU=T at rd g;cases rd;rcases g with i|⟨i,_⟩
    .grind
    .rw [i];rfl
   grind
theorem nv{ro l2 C I n}(J:Sim C g I.heap){Q Qp QQ}
  (hQ:∀ st a w G,Q st->Rel ro C g I n G st a w->wpListIn (WF ro) 0 P ops QQ l2 a w)
  (R:∀ v st a w G u,Qp v st->Rel ro C g I n G st a w->VRel G w.heap v u->QQ (.panic [{ v:=u,recovered:=false }]) a w) :
  ∀ l st a w G,Rel ro C g I n G st a w->(l.all fun o=>dOk n o.dst)=true->awpS P pl false ops l Q Qp st->wpListIn (WF ro) 0 P ops QQ (l++l2) a w:=by
 intro l;induction l with
 |nil=>intro st a w G r _ h;exact hQ st a w G h r
 |cons o l ih =>
  intro st a w G r t h;simp only[List.all_cons,qH]at t;obtain⟨b,hb,h1,h2⟩:=h;have hw:=Ui r hb;simp only[yP,wpListIn,hw];cases b with
  |false =>
   rw[if_neg zSp];exact⟨fun _ _=>trivial,ih _ _ _ G (r.put J (Stp.refl r.stp.sim) (.sc _ rfl) t.1) t.2 (h2 rfl)⟩
  |true =>
   rw[if_pos rfl];refine Uh r.stp.sim r.ev (h1 rfl) ?_ ?_
   .intro v j T w' u U p hv
    exact ih _ _ _ T (r.put J p hv t.1) t.2 U
   .intro v j T w' u U p hv
    refine R v ⟨st.tm,j⟩ a w' T u U ?_ hv;exact r.put (d:=none) J p (.any qU) rfl
theorem Xq{ro j p n}(I:Sim j g p.heap){Q C QQ}
  (J:∀ st a w G,Q st->Rel ro j g p n G st a w->QQ .normal a w)
  (t:∀ v st a w G u,C v st->Rel ro j g p n G st a w->VRel G w.heap v u->QQ (.panic [{ v:=u,recovered:=false }]) a w) :
  ∀ l st a w G,Rel ro j g p n G st a w->(l.all fun o=>dOk n o.dst)=true->awpS P pl false ops l Q C st->wpListIn (WF ro) 0 P ops QQ l a w:=by
 intro l st a w G r R h;have:=nv (l2:=[]) I (fun st a w G T r=>J st a w G T r) t l st a w G r R h
 grind
def memW(pl:Pol)(o:zK):Bool:=
 match o.op with
 | .alloc _ | .store .. | .makeSlice .. | .mapUpdate .. | .mapEntry .. | .entryStore .. | .makeMap .. | .insert .. | .range .. | .next .. => true
 | .box .. => o.dst.any pl.mt.contains
 | .call c=>match c.callee with | .builtin .append | .builtin .copy | .builtin .delete | .builtin .clear=>true|_=>false
 |_=>false
def memR(o:zK):Bool:=
 match o.op with
 | .load .. | .call _ | .lookup .. | .entry .. => true
 |_=>false
def Xr(l:Array qg):List Tmp:=l.toList.filterMap fun | .tmp t=>some t|_=>none
def Ql(ops:Array zK)(o:zK):List Tmp:=
 Xr o.op.operands++(match o.guard with|some (j,_)=>((ops[j]?).bind (·.dst)).toList|none=>[])
def Xs(pl:Pol)(o:zK):Bool:=
 match o.op with
 | .alloc _ | .makeSlice .. | .makeMap .. => true
 | .box .. => o.dst.any pl.mt.contains
 |_=>false
def reads(pl:Pol)(o:zK):Bool:=memR o&&!memW pl o
def soft(pl:Pol)(a b:zK):Bool:=
 (match a.op,b.op with
 | .lookup t _ _ false,.mapEntry g _ _=>t == g
 |_,_=>false)||(reads pl a&&Xs pl b)
def yY(pl:Pol)(ops:Array zK)(a b:zK):Bool:=
 (memW pl a&&(memW pl b||memR b))||(memR a&&memW pl b&&!soft pl a b) ||
 (match a.dst with|some d=>(Ql ops b).contains d||b.dst == some d|none=>false) ||
 (match b.dst with|some d=>(Ql ops a).contains d|none=>false)
def JS(pl:Pol)(ops:Array zK):Bool:=
 jM ops&&(let g:=uQ ops.toList [];(qu ops.size).all fun j=>(qu j).all fun i =>
  match ops[i]?,ops[j]? with|some a,some b=>!yY pl ops a b||(g.getD j 0).testBit i|_,_=>true)
theorem qiJ(h:JS pl ops=true):jM ops=true/\∀(i j) a b,i<j->ops[i]?=some a->ops[j]?=some b->yY pl ops a b=true->(ja ops j).testBit i=true:=by
 unfold JS at h;rw[qH]at h;refine⟨h.1,fun i j a b g p l r=>?_⟩;have t:j<ops.size:=(yK.1 l).1;have o:=h.2;simp only[zF,yi]at o;have:=o j t i g;rw[p,l]at this;simp only[r,Bool.not_true,Bool.false_or]at this;exact this
def Uj(pl:Pol)(ops:Array zK)(a b:Nat):Bool:=
 jM ops&&(let g:=uQ ops.toList [];(qu ops.size).all fun j=>(qu j).all fun i=>(i == a&&j == b) ||
  match ops[i]?,ops[j]? with|some x,some y=>!yY pl ops x y||(g.getD j 0).testBit i|_,_=>true) &&
 (qu b).all fun k=>!(decide (a<k))||match ops[k]?,ops[a]? with|some x,some y=>!yY pl ops x y|_,_=>true
theorem qiK{a b}(h:Uj pl ops a b=true):jM ops=true/\(∀(i j) x y,i<j->¬(i=a/\j=b)->ops[i]?=some x->ops[j]?=some y->yY pl ops x y=true->(ja ops j).testBit i=true) /\
  ∀(k) x y,a<k->k<b->ops[k]?=some x->ops[a]?=some y->yY pl ops x y=false:=by
 unfold Uj at h;rw[qH,qH]at h;refine⟨h.1.1,fun i j x y l o t p C=>?_,fun k x y I g J P=>?_⟩
 .have R:j<ops.size:=(yK.1 p).1
  have g:=h.1.2;simp only[zF,yi]at g;have:=g j R i l;rw[t,p,Zj]at this;rcases this with this|this
  .simp at this;exact absurd this o
  .simp only[C,Bool.not_true,Bool.false_or]at this
   exact this
 .have r:=h.2
  simp only[zF,yi]at r;have:=r k g;rw[J,P]at this;simpa[I] using this
def DS(P:qb)(pl:Pol)(o:zK)(ev:qg->AV)(mu:Mu)(v:AV)(m:Mu):Prop:=qI P pl true o.dst o.op ev mu (fun a b=>a=v/\b=m) (fun _ _=>False)
theorem qI.det{ev K t}(h:qI P pl true o.dst o.op ev mu K t):∃ v m,DS P pl o ev mu v m/\K v m:=by
 unfold DS;generalize o.dst=C at *
 cases I:o.op<;>rw[I]at h<;>simp only[qI]at h⊢<;>try (exact h.elim)
 case move=>exact⟨_,_,⟨rfl,rfl⟩,h⟩
 case assign=>exact⟨_,_,⟨rfl,rfl⟩,h⟩
 case makeFunc=>exact⟨_,_,⟨rfl,rfl⟩,h⟩
 case pick=>grind
 case alloc=>obtain⟨z,i,j,J⟩:=h;exact⟨_,_,⟨z,i,j,rfl,rfl⟩,J⟩
 case box =>
  grind
 case build=>obtain⟨l,z,i,j⟩:=h;exact⟨_,_,⟨l,z,i,rfl,rfl⟩,j⟩
 case buildSlice=>obtain⟨z,i,j⟩:=h;exact⟨_,_,⟨z,i,rfl,rfl⟩,j⟩
 case load=>obtain⟨z,i,j⟩:=h;exact⟨_,_,⟨z,i,rfl,rfl⟩,j⟩
 case store=>obtain⟨z,i,j⟩:=h;exact⟨_,_,⟨z,i,rfl,rfl⟩,j⟩
 case nilCheck=>obtain⟨z,i,j⟩:=h;exact⟨_,_,⟨z,i,rfl,rfl⟩,j⟩
 case binOp =>
  split at h
  .rename_i p
   simp only[if_pos p];obtain⟨z,T,U⟩:=h.det
   grind
  .rename_i p
   simp only[if_neg p];obtain⟨z,i,j⟩:=h;exact⟨_,_,⟨z,i,rfl,rfl⟩,j⟩
 case unOp=>obtain⟨z,i,j⟩:=h;exact⟨_,_,⟨z,i,rfl,rfl⟩,j⟩
 case convert=>obtain⟨l,z,i,j⟩:=h;exact⟨_,_,⟨l,z,i,rfl,rfl⟩,j⟩
 case makeInterface=>grind
 case makeSlice=>obtain⟨z,i,j⟩:=h;exact⟨_,_,⟨z,i,rfl,rfl⟩,j⟩
 case slice=>obtain⟨l,z,i,j⟩:=h;exact⟨_,_,⟨l,z,i,rfl,rfl⟩,j⟩
 case fieldAddr=>obtain⟨z,i,j⟩:=h;exact⟨_,_,⟨z,i,rfl,rfl⟩,j⟩
 case field=>obtain⟨z,i,j⟩:=h;exact⟨_,_,⟨z,i,rfl,rfl⟩,j⟩
 case indexAddr=>obtain⟨z,i,j⟩:=h;exact⟨_,_,⟨z,i,rfl,rfl⟩,j⟩
 case index=>obtain⟨z,i,j⟩:=h;exact⟨_,_,⟨z,i,rfl,rfl⟩,j⟩
 case extract=>obtain⟨z,i,j⟩:=h;exact⟨_,_,⟨z,i,rfl,rfl⟩,j⟩
 case typeAssert=>obtain⟨z,i,j⟩:=h;exact⟨_,_,⟨z,i,rfl,rfl⟩,j⟩
 case makeMap=>grind
 case lookup=>obtain⟨z,i,j⟩:=h;exact⟨_,_,⟨z,i,rfl,rfl⟩,j⟩
 case mapUpdate=>obtain⟨z,i,j⟩:=h;exact⟨_,_,⟨z,i,rfl,rfl⟩,j⟩
 case insert=>obtain⟨z,i,j⟩:=h;exact⟨_,_,⟨z,i,rfl,rfl⟩,j⟩
 case mapEntry=>obtain⟨z,i,j⟩:=h;exact⟨_,_,⟨z,i,rfl,rfl⟩,j⟩
 case entryStore=>obtain⟨z,i,j⟩:=h;exact⟨_,_,⟨z,i,rfl,rfl⟩,j⟩
 case range=>obtain⟨z,i,j⟩:=h;exact⟨_,_,⟨z,i,rfl,rfl⟩,j⟩
 case next=>exact absurd h.1 zSp
 case entry=>obtain⟨z,i,j⟩:=h;exact⟨_,_,⟨z,i,rfl,rfl⟩,j⟩
 case panic=>exact absurd h.1 zSp
 case call c =>
  obtain⟨callee,args,R⟩:=c;cases callee with
  |invoke r m=>exact h.elim
  |value f =>
   rcases h with ⟨v,i,j⟩|⟨i,_⟩
   .exact ⟨_,_,.inl ⟨v,i,rfl,rfl⟩,j⟩
   .exact absurd i zSp
  |builtin b =>
   cases b<;>simp only at h⊢<;>try (first | (obtain⟨z,m,i,j⟩:=h;exact⟨_,_,⟨z,m,i,rfl,rfl⟩,j⟩) | (obtain⟨z,i,j⟩:=h;exact⟨_,_,⟨z,i,rfl,rfl⟩,j⟩))
   obtain⟨s,x,i,h⟩:=h;obtain⟨v,m,g,k⟩:=h.det;exact⟨v,m,⟨s,x,i,g⟩,k⟩
theorem DS.mem{ev v}(h:DS P pl o ev mu v m)(l:memW pl o=false):m=mu/\(memR o=false->∀ i,DS P pl o ev i v i):=by
 unfold DS at *
 unfold memW at l;unfold memR;cases C:o.op<;>rw[C]at h l<;>simp only[qI]at h⊢<;>try (exact h.elim)
 case move=>grind
 case assign=>grind
 case makeFunc=>grind
 case pick=>grind
 case alloc=>exact absurd l zSp
 case box =>
  grind
 case build=>obtain⟨p,z,j,g⟩:=h;exact⟨g.2.symm,fun _ i=>⟨p,z,j,g.1,by first|rfl|trivial⟩⟩
 case buildSlice=>obtain⟨z,j,g⟩:=h;exact⟨g.2.symm,fun _ i=>⟨z,j,g.1,by first|rfl|trivial⟩⟩
 case load=>obtain⟨z,j,g⟩:=h;grind
 case store=>exact absurd l zSp
 case nilCheck=>obtain⟨z,j,g⟩:=h;exact⟨g.2.symm,fun _ i=>⟨z,j,g.1,by first|rfl|trivial⟩⟩
 case binOp =>
  split at h
  .rename_i t
   simp only[if_pos t];obtain⟨z,J,R⟩:=h.det
   grind
  .rename_i t
   simp only[if_neg t];obtain⟨z,j,g⟩:=h;exact⟨g.2.symm,fun _ i=>⟨z,j,g.1,by first|rfl|trivial⟩⟩
 case unOp=>obtain⟨z,j,g⟩:=h;exact⟨g.2.symm,fun _ i=>⟨z,j,g.1,by first|rfl|trivial⟩⟩
 case convert=>obtain⟨p,z,j,g⟩:=h;exact⟨g.2.symm,fun _ i=>⟨p,z,j,g.1,by first|rfl|trivial⟩⟩
 case makeInterface=>grind
 case makeSlice=>exact absurd l zSp
 case slice=>obtain⟨p,z,j,g⟩:=h;exact⟨g.2.symm,fun _ i=>⟨p,z,j,g.1,by first|rfl|trivial⟩⟩
 case fieldAddr=>obtain⟨z,j,g⟩:=h;exact⟨g.2.symm,fun _ i=>⟨z,j,g.1,by first|rfl|trivial⟩⟩
 case field=>obtain⟨z,j,g⟩:=h;exact⟨g.2.symm,fun _ i=>⟨z,j,g.1,by first|rfl|trivial⟩⟩
 case indexAddr=>obtain⟨z,j,g⟩:=h;exact⟨g.2.symm,fun _ i=>⟨z,j,g.1,by first|rfl|trivial⟩⟩
 case index=>obtain⟨z,j,g⟩:=h;exact⟨g.2.symm,fun _ i=>⟨z,j,g.1,by first|rfl|trivial⟩⟩
 case extract=>obtain⟨z,j,g⟩:=h;exact⟨g.2.symm,fun _ i=>⟨z,j,g.1,by first|rfl|trivial⟩⟩
 case typeAssert=>obtain⟨z,j,g⟩:=h;exact⟨g.2.symm,fun _ i=>⟨z,j,g.1,by first|rfl|trivial⟩⟩
 case makeMap=>exact absurd l zSp
 case lookup=>obtain⟨z,j,g⟩:=h;grind
 case mapUpdate=>exact absurd l zSp
 case insert=>exact absurd l zSp
 case mapEntry=>exact absurd l zSp
 case entryStore=>exact absurd l zSp
 case range=>exact absurd l zSp
 case next=>exact absurd l zSp
 case entry=>obtain⟨z,j,g⟩:=h;grind
 case panic=>exact absurd h.1 zSp
 case call c =>
  obtain⟨callee,args,I⟩:=c;cases callee with
  |invoke r m=>exact h.elim
  |value f =>
   rcases h with ⟨v,j,g⟩|⟨j,_⟩
   .grind
   grind
  |builtin b =>
   cases b<;>simp only at h l⊢<;>first
    | (obtain⟨z,j,g⟩:=h;grind)
    | (exact absurd l zSp)
theorem Yx{ev}{l:Array qg}(h:∀ x,x∈l->ev x=ev' x):evs ev l.toList=evs ev' l.toList:=
 List.map_congr_left fun x g=>h x (zUs g)
theorem Uk{ev:qg->AV}{l:Array (Nat×qg)}(h:∀ x,x∈(l.toList.map (·.2)).toArray->ev x=ev' x):(l.toList.map fun p=>(p.1,ev p.2))=l.toList.map fun p=>(p.1,ev' p.2):=
 List.map_congr_left fun p g=>by grind
theorem Ul{ev}{o:Option qg}(h:∀ x,x∈o.toArray->ev x=ev' x):o.map ev=o.map ev':=by
 cases o with
 |none=>rfl
 |some x=>simp[h x zSp]
theorem DS.congr{ev v}(h:DS P pl o ev mu v m)(g:∀ x,x∈o.op.operands->ev x=ev' x):DS P pl o ev' mu v m:=by
 unfold DS at *
 cases p:o.op<;>rw[p]at h g<;>simp only[qI,Op.operands]at h g⊢<;>try (exact h.elim)
 case move x=>rw[<-g x zSp];exact h
 case assign x=>rw[<-g x zSp];exact h
 case makeFunc f first j =>
  grind [Yx]
 case pick c x y=>grind
 case alloc=>exact h
 case box t x=>rw[<-g x zSp];exact h
 case build t C=>rw[<-Uk g];exact h
 case buildSlice t n C=>rw[<-Uk g];exact h
 case load t x=>rw[<-g x zSp];exact h
 case store t x y=>grind
 case nilCheck x=>rw[<-g x zSp];exact h
 case binOp op t x y R=>grind
 case unOp op t x=>rw[<-g x zSp];exact h
 case convert s t x=>rw[<-g x zSp];exact h
 case makeInterface t x=>rw[<-g x zSp];exact h
 case makeSlice t x y=>grind
 case slice t x T U mx =>
  grind [Ul]
 case fieldAddr t x f=>rw[<-g x zSp];exact h
 case field t x f=>rw[<-g x zSp];exact h
 case indexAddr t x i=>grind
 case index t x i=>grind
 case extract x i=>rw[<-g x zSp];exact h
 case typeAssert x xt t ok=>rw[<-g x zSp];exact h
 case makeMap=>exact h
 case lookup t m k ok=>grind
 case mapUpdate t m k v=>grind
 case insert t m k v=>grind
 case mapEntry t m k=>grind
 case entryStore t m k v=>grind
 case range t m=>rw[<-g m zSp];exact h
 case next=>exact absurd h.1 zSp
 case entry i=>rw[<-g i zSp];exact h
 case panic x=>exact absurd h.1 zSp
 case call c =>
  obtain⟨callee,args,I⟩:=c;cases callee with
  |invoke r m=>exact h.elim
  |value f =>
   grind [Call.operands,Yx]
  |builtin b =>
   simp only[Call.operands]at g;simp only at h⊢;rw[<-Yx (l:=args) (fun x J=>g x (zP1 J))];exact h
theorem ny(g:MuLe mu mu'){p n cs}(h:ub mu p n=some cs):ub mu' p n=some cs:=by
 unfold ub at *
 split at h
 .exact h
 .split at h
  .rename_i i;rw[g _ _ i];exact h
  grind
 grind
theorem qiL(i:MuLe mu mu'){t p z}(h:Qf P mu t p=some z):Qf P mu' t p=some z:=by
 unfold Qf at *
 split at h
 .rename_i n l o
  cases g:ub mu p n with
  |none=>rw[g]at h;exact absurd h zSp
  |some j=>rw[g]at h;rw[ny i g];exact h
 .cases g:ub mu p 1 with
  |none=>rw[g]at h;exact absurd h zSp
  |some j=>rw[g]at h;rw[ny i g];exact h
 grind
theorem qiM(g:MuLe mu mu'){m es}(h:ve mu m=some es):ve mu' m=some es:=by
 unfold ve at *
 split at h
 .exact h
 .split at h
  .rename_i i;rw[g _ _ i];exact h
  grind
 .exact h
 grind
theorem nz(g:MuLe mu mu'){t m k z ok}(h:jC P mu t m k ok=some z):jC P mu' t m k ok=some z:=by
 grind [jC,qiM,absurd]
theorem qiN(g:MuLe mu mu'){t m k z ok}(h:yB P mu t m k ok=some z):yB P mu' t m k ok=some z:=by
 cases m with
 |ims U =>
  simp only[yB]at h⊢;cases i:mapT P t with
  |none=>rw[i]at h;exact absurd h zSp
  |some q =>
   rw[i]at h;simp only at h⊢;split at h
   .rename_i j
    rw[if_pos j];exact nz g h
   grind
 |_=>exact nz g h
theorem qiO(g:MuLe mu mu'){x z}(h:ZU mu x=some z):ZU mu' x=some z:=by
 unfold ZU at *
 split at h
 .split at h
  .rename_i i;rw[g _ _ i];exact h
  grind
 grind
theorem qiP(g:MuLe mu mu'){t x z}(h:lenA P mu t x=some z):lenA P mu' t x=some z:=by
 unfold lenA at *
 split at h
 .exact h
 .exact h
 .exact h
 .exact h
 .exact h
 .split at h
  .rename_i i j;rw[i,g _ _ j];exact h
  grind
 grind
theorem qiQ(g:MuLe mu mu'){b ts xs z}(h:uO P mu b ts xs=some z):uO P mu' b ts xs=some z:=by
 unfold uO at *
 split at h
 .exact qiP g h
 .exact h
 .exact h
 .exact h
 grind
theorem Rd.le(C:MuLe mu mu'){x y}(h:Rd mu x y):Rd mu' x y:=by
 induction h with
 |hf x h=>exact .hf x h
 |sl b g off len cells i r hl j I h l=>exact .sl b g off len cells i (C _ _ r) hl j I l
 |ptr b off cells i r j h l=>exact .ptr b off cells i (C _ _ r) j l
 |mp b U P r j hk hv o p=>exact .mp b U P (C _ _ r) j o p
 |md b U P r j hk hv o p=>exact .md b U P (C _ _ r) j o p
 |agg J i j h l=>exact .agg J i j l
 |tup J i j h l=>exact .tup J i j l
 |lst full J i j I h l=>exact .lst full J i j I l
 |fn f a b c d j R h h' o p=>exact .fn f a b c d j R o p
 |ifc t x y h l=>exact .ifc t x y l
 |wk x full i h l=>exact .wk x full i l
 |ims x U T σ τ hp hd h l=>exact .ims x U T σ τ hp hd l
theorem Rds.le(g:MuLe mu mu'):∀{xs ys},Rds mu xs ys->Rds mu' xs ys
 | [],[],_=>trivial
 |x :: xs,y :: ys,⟨h,t⟩=>⟨h.le g,Rds.le g t⟩
 | [],_ :: _,h=>h.elim
 |_ :: _,[],h=>h.elim
theorem JR.le(r:MuLe mu mu'){f args v}(h:JR P mu f args v):JR P mu' f args v:=by
 rcases h with ⟨g,first,j,i,o,p,l⟩|⟨g,first,j,i,o,p,l⟩
 .refine .inl ⟨g,first,j,i,o,p,?_⟩
  rcases l with l|⟨l,t⟩
  .exact .inl l
  .exact .inr ⟨l.le r,t⟩
 .exact .inr ⟨g,first,j,i,o,p,l.le r⟩
theorem DS.le{ev v}(j:reads pl o=true)(l:MuLe mu mu')(h:DS P pl o ev mu v m):DS P pl o ev mu' v mu':=by
 unfold reads at j;rw[qH,Bool.not_eq_true']at j;obtain⟨j,p⟩:=j;unfold DS at *
 unfold memR at j;unfold memW at p;cases t:o.op<;>rw[t]at h j p<;>simp only[qI]at h⊢<;>try grind
 case load=>obtain⟨z,g,i⟩:=h;exact⟨z,qiL l g,i.1,by first|rfl|trivial⟩
 case lookup=>obtain⟨z,g,i⟩:=h;exact⟨z,qiN l g,i.1,by first|rfl|trivial⟩
 case entry=>obtain⟨z,g,i⟩:=h;exact⟨z,qiO l g,i.1,by first|rfl|trivial⟩
 case call c =>
  obtain⟨callee,args,C⟩:=c;cases callee with
  |invoke r m=>exact h.elim
  |value f =>
   rcases h with ⟨v,g,i⟩|⟨g,_⟩
   .exact .inl ⟨v,g.le l,i.1,by first|rfl|trivial⟩
   grind
  |builtin b =>
   cases b<;>simp only at h p⊢<;>first
    | (obtain⟨z,g,i⟩:=h;exact⟨z,qiQ l g,i.1,by first|rfl|trivial⟩)
    | (exact absurd p zSp)
theorem DS.push{ev v}(j:Xs pl o=true)(h:DS P pl o ev mu v m):MuLe mu m:=by
 unfold DS at *
 unfold Xs at j;cases p:o.op<;>rw[p]at h j<;>simp only[qI]at h<;>try grind
 case alloc=>obtain⟨z,g,i,l,r⟩:=h;rw[<-r];exact .push _ _
 case box =>
  obtain⟨g,i⟩:=h;simp only at j;rw[if_pos j]at i;rw[<-i.2];exact .push _ _
 case makeSlice =>
  obtain⟨z,g,i,l⟩:=h;rw[<-l];unfold JH at g;split at g
  .split at g
   .split at g
    .simp only[qv]at g
     rw[<-g];exact .push _ _
    grind
   grind
  grind
 case makeMap=>obtain⟨t,g,i⟩:=h;rw[<-i];exact .push _ _
end
end Go.Ev
namespace Go.Ev
open Go Go.RowKit
section
variable {o:zK}{st:St}
theorem nA{pl}(h:reads pl o=true):memW pl o=false:=by
 simp_all[reads,qH]
theorem qiR{pl}(h:reads pl o=true):memR o=true:=by
 unfold reads at h;rw[qH]at h;exact h.1
theorem qiS{pl}(h:memW pl o=true):reads pl o=false:=by
 unfold reads;rw[h];simp
theorem qiT{pl a b}(h:reads pl a=false):soft pl a b=false:=by
 unfold soft;rw[h];simp only[Bool.false_and,Bool.or_false]
 grind [reads,memR,memW,absurd]
theorem qiU{P pl a b}(h:soft pl a b=true){ev ev' mu m v l}(g:DS P pl b ev' mu l m)(i:DS P pl a ev mu v mu):DS P pl a ev m v m:=by
 unfold soft at h;rw[Zj]at h;rcases h with h|h
 .split at h
  .rename_i t U ko t' o p r C
   have I:=beq_iff_eq.1 h;subst I;unfold DS at *
   rw[r]at i⊢;rw[C]at g;simp only[qI]at i g⊢;obtain⟨z,J,R,_⟩:=i;obtain⟨y,T,_,j⟩:=g;obtain⟨y1,y2⟩:=y;simp only at j;subst j;exact⟨z,qh3 T J,R,by first|rfl|trivial⟩
  grind
 .rw [qH]at h
  exact i.le h.1 (g.push h.2)
section
variable (P:qb) (pl:Pol) (ops:Array zK)
def vB(st:St)(o:zK)(g:St):Prop:=
 ∃ b,yG ops st o=some b/\(b=true->∃ v m,DS P pl o st.ev st.mu v m/\g=st.put o.dst v m)/\(b=false->g=st.put o.dst (.sc qU) st.mu)
theorem Xt{Q r}:∀ l st,awpS P pl true ops l Q r st ->
  ∃ g:Nat->St,g 0=st/\Q (g l.length)/\∀ i o,l[i]?=some o->vB P pl ops (g i) o (g (i+1)):=by
 intro l;induction l with
 |nil=>intro st h;exact⟨fun _=>st,rfl,h,zSp⟩
 |cons o l C =>
  intro st h;obtain⟨b,t,I,J⟩:=h;have key:∀ j:St,awpS P pl true ops l Q r j->vB P pl ops st o j->∃ g:Nat->St,g 0=st/\Q (g (o :: l).length)/\∀(i:Nat)(x:zK),(o :: l)[i]?=some x->vB P pl ops (g i) x (g (i+1)):=by
   intro j p R;obtain⟨g,e0,T,hs⟩:=C j p;refine⟨fun i=>match i with|0=>st|k+1=>g k,rfl,T,fun i x hx=>?_⟩
   grind
  cases b with
  |true =>
   obtain⟨v,m,U,hk⟩:=qI.det (I rfl);exact key _ hk ⟨true,t,fun _=>⟨v,m,U,rfl⟩,fun h=>absurd h zSp⟩
  |false=>exact key _ (J rfl) ⟨false,t,fun h=>absurd h zSp,fun _=>rfl⟩
variable (po:Array zK)
def uc(k:Nat):Option Tmp:=(po[k]?).bind (·.dst)
def wAt(k:Nat):Bool:=(po[k]?).any (memW pl)
def Sst(g:Nat->St)(S:List Nat):Nat->St
 | 0=>g 0
 |k+1=>if k∈S then ⟨fun t=>if uc po k=some t then (g (k+1)).tm t else (Sst g S k).tm t,if wAt pl po k=true then (g (k+1)).mu else (Sst g S k).mu⟩ else Sst g S k
variable {P pl ops po}
theorem vg{d v m t}(h:d≠some t):(st.put d v m).tm t=st.tm t:=by
 cases d with
 |none=>rfl
 |some d =>
  simp only[St.put]
  grind
theorem vB.frame{g}(h:vB P pl ops st o g){t}(i:o.dst≠some t):g.tm t=st.tm t:=by
 obtain⟨b,_,l,j⟩:=h;cases b with
 |true=>grind [vg]
 |false=>rw[j rfl];exact vg i
theorem vB.mem{g}(h:vB P pl ops st o g)(i:memW pl o=false):g.mu=st.mu:=by
 obtain⟨b,_,j,l⟩:=h;cases b with
 |true=>obtain⟨v,m,p,rfl⟩:=j rfl;exact(p.mem i).1
 |false=>rw[l rfl];rfl
variable {stf:Nat->St}
theorem qiV(j:∀ i o,po[i]?=some o->vB P pl ops (stf i) o (stf (i+1))){k}(l:k<po.size){t}(h:uc po k≠some t):(stf (k+1)).tm t=(stf k).tm t:=by
 have g:po[k]?=some po[k]:=zP1 l;exact(j k _ g).frame (by unfold uc at h;rw[g]at h;exact h)
theorem nB(j:∀ i o,po[i]?=some o->vB P pl ops (stf i) o (stf (i+1))){k}(l:k<po.size)(h:wAt pl po k=false):(stf (k+1)).mu=(stf k).mu:=by
 have g:po[k]?=some po[k]:=zP1 l;exact(j k _ g).mem (by unfold wAt at h;rw[g]at h;exact h)
theorem Xu(l:∀(i) (o),po[i]?=some o->vB P pl ops (stf i) o (stf (i+1)))(S t j)(r:∀ k,k<j->uc po k=some t->k∈S)(C:∀ k,j<=k->k<po.size->uc po k=some t->k ∉ S) :
  ∀ m,m<=po.size->(Sst pl po stf S m).tm t=(stf (min m j)).tm t:=by
 intro m;induction m with
 |zero=>intro _;simp[Sst]
 |succ m g =>
  intro I;have g:=g zOm;simp only[Sst];by_cases p:uc po m=some t
  .grind
  .have e:(if m∈S then (⟨fun t=>if uc po m=some t then (stf (m+1)).tm t else (Sst pl po stf S m).tm t,if wAt pl po m=true then (stf (m+1)).mu else (Sst pl po stf S m).mu⟩:St) else Sst pl po stf S m).tm t=(Sst pl po stf S m).tm t:=by
    grind
   rw[e,g];by_cases J:m<j
   .rw [Nat.min_eq_left zOm,Nat.min_eq_left zOm,qiV l zOm p]
   grind
theorem Um(l:∀(i) (o),po[i]?=some o->vB P pl ops (stf i) o (stf (i+1)))(S j)(r:∀ k,k<j->wAt pl po k=true->k∈S)(C:∀ k,j<=k->k<po.size->wAt pl po k=true->k ∉ S) :
  ∀ m,m<=po.size->(Sst pl po stf S m).mu=(stf (min m j)).mu:=by
 intro m;induction m with
 |zero=>intro _;simp[Sst]
 |succ m g =>
  intro I;have g:=g zOm;simp only[Sst];by_cases p:wAt pl po m=true
  .grind
  .have e:(if m∈S then (⟨fun t=>if uc po m=some t then (stf (m+1)).tm t else (Sst pl po stf S m).tm t,if wAt pl po m=true then (stf (m+1)).mu else (Sst pl po stf S m).mu⟩:St) else Sst pl po stf S m).mu=(Sst pl po stf S m).mu:=by
    grind
   rw[e,g];by_cases J:m<j
   .rw [Nat.min_eq_left zOm,Nat.min_eq_left zOm,nB l zOm (zUs p)]
   grind
theorem qiW(S t j)(g:uc po j≠some t):∀ m,(Sst pl po stf (S++[j]) m).tm t=(Sst pl po stf S m).tm t:=by
 intro m;induction m with
 |zero=>rfl
 |succ m i =>
  simp only[Sst];by_cases l:m∈S
  .grind
  grind
theorem qiX(S j)(g:wAt pl po j=false):∀ m,(Sst pl po stf (S++[j]) m).mu=(Sst pl po stf S m).mu:=by
 intro m;induction m with
 |zero=>rfl
 |succ m i =>
  simp only[Sst];by_cases l:m∈S
  .grind
  grind
def OrdC(pl:Pol)(ops po:Array zK)(L:List Nat):Prop:=∀(i k:Nat) x y,i<k->po[i]?=some x->po[k]?=some y->yY pl ops x y=true->Bef L i k
theorem Xv(hs:∀(i) (o),po[i]?=some o->vB P pl ops (stf i) o (stf (i+1))){ro G0 al w0 n}(s0:Sim G0 al w0.heap)(b0)(b1:∀ k,k<po.size->ops[b0 k]?=po[k]?)(b2:(po.toList.all fun o=>dOk n o.dst)=true){QQ}
    (hQ:∀ a w G,Rel ro G0 al w0 n G (stf po.size) a w->QQ .normal a w) :
    ∀ post pre a w G,OrdC pl ops po (pre++post)->(pre++post).length=po.size->(∀ k,k∈pre++post->k<po.size)->(pre++post).Nodup ->
      Rel ro G0 al w0 n G (Sst pl po stf pre po.size) a w->wpOpsIn (WF ro) 0 P ops QQ (post.map b0) a w:=by
  intro post;induction post with
  |nil =>
    intro pre a w G ht a7 a9 aa r;simp only[zO]at ht a7 a9 aa;simp only[List.map_nil,wpOpsIn];refine hQ a w G ?_;have ai:∀ i,i<po.size->i∈pre:=by
      intro i hi;refine wo fun h=>?_
      have h1:(i :: pre).length<=(qu po.size).length:=vb (vP.2 ⟨h,aa⟩) (fun k hk=>by
        grind)
      simp at h1;omega
    have e:Sst pl po stf pre po.size=stf po.size:=by
      have e1:(Sst pl po stf pre po.size).tm=(stf po.size).tm:=by
        funext t;rw[Xu hs pre t po.size (fun k hk _=>ai k hk) (fun k h1 h2 _=>absurd h2 zOm) po.size (qr _),Nat.min_self]
      have e2:(Sst pl po stf pre po.size).mu=(stf po.size).mu:=by
        rw[Um hs pre po.size (fun k hk _=>ai k hk) (fun k h1 h2 _=>absurd h2 zOm) po.size (qr _),Nat.min_self]
      cases hq:Sst pl po stf pre po.size;simp_all
    rw[<-e];exact r
  |cons j post ih =>
    intro pre a w G ht a7 a9 aa r;have hj:j<po.size:=a9 j zSp;have ag:j ∉ pre:=fun h=>by
      grind
    have ho:po[j]?=some po[j]:=zP1 hj;generalize cm:po[j]=o at ho;have b3:dOk n o.dst=true:=zF.1 b2 o (by grind)
    have C:∀(k:Nat)(x:zK),k<j->po[k]?=some x->yY pl ops x o=true->k∈pre:=fun k x hk l hc=>ht k j x o hk l ho hc pre post rfl
    have ab:∀(i k:Nat)(x y:zK),i<k->po[i]?=some x->po[k]?=some y->yY pl ops x y=true->k∈pre->i∈pre:=by
      intro i k x y bi l hy hc hk;obtain⟨p,q,e⟩:=List.append_of_mem hk;have:=ht i k x y bi l hy hc p (q++j :: post) (by rw[e];simp);rw[e];simp[this]
    have after:∀(k:Nat)(x:zK),j<k->po[k]?=some x->yY pl ops o x=true->k ∉ pre:=fun k x hk l hc bj=>ag (ab j k o x hk ho l hc bj)
    have a0:∀ k t,uc po k=some t->∃ x,po[k]?=some x/\x.dst=some t:=by
      intro k t h;unfold uc at h;cases l:po[k]? with
      |none=>rw[l]at h;exact absurd h zSp
      |some x=>rw[l]at h;exact⟨x,rfl,h⟩
    have a1:∀ k,wAt pl po k=true->∃ x,po[k]?=some x/\memW pl x=true:=by
      intro k h;unfold wAt at h;cases l:po[k]? with
      |none=>rw[l]at h;exact absurd h zSp
      |some x=>rw[l]at h;exact⟨x,rfl,h⟩
    have cn:∀ k (x:zK),po[k]?=some x->j<=k->k≠j->j<k:=fun k x _ h1 h2=>zOm
    have aj:∀ t,t∈Ql ops o->(Sst pl po stf pre po.size).tm t=(stf j).tm t:=by
      intro t b4;rw[Xu hs pre t j ?_ ?_ po.size (qr _),Nat.min_eq_right zOm]
      · intro k hk hd
        obtain⟨x,l,a3⟩:=a0 k t hd;exact C k x hk l (by simp[yY,a3,b4])
      · intro k an ao hd
        by_cases a4:k=j
        · subst a4;exact ag
        · obtain⟨x,l,a3⟩:=a0 k t hd
          exact after k x zOm l (by simp[yY,a3,b4])
    have ak:(memW pl o||memR o)=true->reads pl o=false->(Sst pl po stf pre po.size).mu=(stf j).mu:=by
      intro U bk;rw[Um hs pre j ?_ ?_ po.size (qr _),Nat.min_eq_right zOm]
      · intro k hk hd
        obtain⟨x,l,I⟩:=a1 k hd;refine C k x hk l ?_;simp only[yY,I,U,Bool.and_self,Bool.true_or]
      · intro k an ao hd
        by_cases a4:k=j
        · subst a4;exact ag
        · obtain⟨x,l,I⟩:=a1 k hd
          refine after k x zOm l ?_;have bm:=qiT (b:=x) bk;simp only[yY,I,bm,Bool.true_or,Bool.and_true,Bool.not_false];simp only[Zj]at U⊢;rcases U with U|U
          · exact .inl (.inl (.inl U))
          · exact .inl (.inl (.inr U))
    have ah:reads pl o=true->∀(ev:qg->AV) v m,DS P pl o ev (stf j).mu v m->DS P pl o ev (Sst pl po stf pre po.size).mu v (Sst pl po stf pre po.size).mu:=by
      intro a5 ev v m aq;have b5:memW pl o=false:=nA a5;have b6:memR o=true:=qiR a5;have bef:∀ k,k<j->wAt pl po k=true->k∈pre:=by
        intro k hk hd;obtain⟨x,l,I⟩:=a1 k hd;refine C k x hk l ?_;simp only[yY,I,b6,Bool.or_true,Bool.and_self,Bool.true_or]
      obtain⟨J,bn,cp,b7,bo⟩:∃ J,j<=J/\J<=po.size/\(∀ k,k<J->wAt pl po k=true->k∈pre)/\(∀ k,J<=k->k<po.size->wAt pl po k=true->k ∉ pre):=by
        have down:∀ d,d<=po.size-j->(∀ k,po.size-d<=k->k<po.size->wAt pl po k=true->k ∉ pre) \/
            ∃ J,j<=J/\J<=po.size/\(∀ k,k<J->wAt pl po k=true->k∈pre)/\(∀ k,J<=k->k<po.size->wAt pl po k=true->k ∉ pre):=by
          intro d;induction d with
          |zero=>intro _;exact .inl (fun k h1 h2 _=>absurd h2 zOm)
          |succ d bq =>
            intro hd;rcases bq zOm with h|h
            · by_cases hw:wAt pl po (po.size-(d+1))=true/\(po.size-(d+1))∈pre
              · obtain⟨br,b8⟩:=hw
                refine .inr ⟨po.size-d,zOm,zOm,fun k hk bs=>?_,fun k h1 h2 h3=>h k h1 h2 h3⟩;by_cases ar:k=po.size-(d+1)
                · rw[ar];exact b8
                · obtain⟨x,l,I⟩:=a1 k bs
                  obtain⟨y,hy,bt⟩:=a1 _ br;exact ab k _ x y zOm l hy (by simp only[yY,I,bt,Bool.true_or,Bool.and_self]) b8
              · refine .inl (fun k h1 h2 h3 h4=>?_)
                by_cases ar:k=po.size-(d+1)
                · rw[ar]at h3 h4;exact hw ⟨h3,h4⟩
                · exact h k zOm h2 h3 h4
            · exact .inr h
        rcases down (po.size-j) (qr _) with h|h
        · exact⟨j,qr _,zOm,bef,fun k h1 h2 h3=>h k zOm h2 h3⟩
        · exact h
      have bu:(Sst pl po stf pre po.size).mu=(stf J).mu:=by
        rw[Um hs pre J b7 bo po.size (qr _),Nat.min_eq_right zOm]
      have chain:∀ R,j<=R->R<=J->∀ v m,DS P pl o ev (stf j).mu v m->DS P pl o ev (stf R).mu v (stf R).mu:=by
        intro R;induction R with
        | zero =>
                  intro h1 _ v m h;have:j=0:=zOm;subst this;have:=(h.mem b5).1;rw[this]at h;exact h
        |succ R bv =>
          intro h1 h2 v m h;by_cases he:j=R+1
          · rw[<-he];have:=(h.mem b5).1;rw[this]at h;exact h
          · have a6:=bv zOm zOm v m h
            by_cases hw:wAt pl po R=true
            · have au:=b7 R zOm hw
              obtain⟨x,l,I⟩:=a1 R hw;have cq:j≠R:=fun e=>by rw[<-e]at au;exact ag au
              have av:soft pl o x=true:=by
                refine Decidable.byContradiction fun b9=>after R x zOm l ?_ au
                simp only[yY,b6,I,Bool.not_eq_true]at b9⊢;simp[b9]
              obtain⟨b',cr,bb,bc⟩:=hs R x l;cases b' with
              |true =>
                obtain⟨v',m2,bw,be⟩:=bb rfl;rw[be];have:((stf R).put x.dst v' m2).mu=m2:=by cases x.dst<;>rfl
                rw[this];exact qiU av bw a6
              | false =>
                         rw[bc rfl];have:((stf R).put x.dst (.sc qU) (stf R).mu).mu=(stf R).mu:=by cases x.dst<;>rfl
                         rw[this];exact a6
            · have:=nB hs (k:=R) zOm (zUs hw)
              rw[this];exact a6
      rw[bu];exact chain J bn (qr _) v m aq
    have aw:∀ t,o.dst=some t->(Sst pl po stf (pre++[j]) po.size).tm t=(stf (j+1)).tm t:=by
      intro t a2;rw[Xu hs (pre++[j]) t (j+1) ?_ ?_ po.size (qr _),Nat.min_eq_right zOm]
      · intro k hk hd
        by_cases a4:k=j
        · subst a4;simp
        · obtain⟨x,l,a3⟩:=a0 k t hd
          exact qM.2 (.inl (C k x zOm l (by simp[yY,a3,a2])))
      · intro k an ao hd ax
        obtain⟨x,l,a3⟩:=a0 k t hd;rcases qM.1 ax with h|h
        · exact after k x zOm l (by simp[yY,a3,a2]) h
        · simp at h;omega
    have ay:memW pl o=true->(Sst pl po stf (pre++[j]) po.size).mu=(stf (j+1)).mu:=by
      intro U;rw[Um hs (pre++[j]) (j+1) ?_ ?_ po.size (qr _),Nat.min_eq_right zOm]
      · intro k hk hd
        by_cases a4:k=j
        · subst a4;simp
        · obtain⟨x,l,I⟩:=a1 k hd
          exact qM.2 (.inl (C k x zOm l (by simp[yY,I,U])))
      · intro k an ao hd ax
        obtain⟨x,l,I⟩:=a1 k hd;rcases qM.1 ax with h|h
        · exact after k x zOm l (by simp[yY,I,U]) h
        · simp at h;omega
    have ca:uc po j=o.dst:=by unfold uc;rw[ho];rfl
    have cb:wAt pl po j=memW pl o:=by unfold wAt;rw[ho];rfl
    have ad:∀(v:AV)(m:Mu),(∀ t,o.dst=some t->v=(stf (j+1)).tm t)->(memW pl o=true->m=(stf (j+1)).mu)->(memW pl o=false->m=(Sst pl po stf pre po.size).mu) ->
        (Sst pl po stf pre po.size).put o.dst v m=Sst pl po stf (pre++[j]) po.size:=by
      intro v m h1 h2 h3;have e1:((Sst pl po stf pre po.size).put o.dst v m).tm=(Sst pl po stf (pre++[j]) po.size).tm:=by
        funext t;by_cases a2:o.dst=some t
        · rw[aw t a2,<-h1 t a2,a2];simp[St.put]
        · rw[vg a2,qiW pre t j (by rw[ca];exact a2)]
      have e2:((Sst pl po stf pre po.size).put o.dst v m).mu=(Sst pl po stf (pre++[j]) po.size).mu:=by
        cases U:memW pl o with
        |true=>rw[ay U];exact h2 U
        |false=>rw[qiX pre j (by rw[cb];exact U)];exact h3 U
      cases hq:(Sst pl po stf pre po.size).put o.dst v m;cases cc:Sst pl po stf (pre++[j]) po.size;rw[hq,cc]at e1 e2;simp only at e1 e2;rw[e1,e2]
    obtain⟨b,hb,cd,cf⟩:=hs j o ho;have cg:yG ops (Sst pl po stf pre po.size) o=some b:=by
      rw[<-hb];unfold yG;cases hg:o.guard with
      |none=>rfl
      |some q =>
        obtain⟨k,cl⟩:=q;simp only;cases hd:(ops[k]?).bind (·.dst) with
        |none=>rfl
        |some d =>
          simp only;rw[aj d (by simp[Ql,hg,hd])]
    have az:=Ui r cg;have ae:∀{T:St}{v:AV}{m:Mu}{t:Tmp},o.dst=some t->(T.put o.dst v m).tm t=v:=by
      intro T v m t h;rw[h];simp[St.put]
    simp only[List.map_cons,wpOpsIn,b1 j hj,ho,az];cases b with
    |false =>
      rw[if_neg zSp];have af:=cf rfl;have e:=ad (.sc qU) (Sst pl po stf pre po.size).mu (fun t h=>by rw[af];exact(ae h).symm) (fun h=>by rw[af,ak (zP1 h) (qiS h)];rfl) (fun _=>rfl);refine⟨fun _ _=>trivial,ih (pre++[j]) _ _ G (zUs ht) (zUs a7) (zUs a9) (zUs aa) ?_⟩;rw[<-e];exact r.put s0 (Stp.refl r.stp.sim) (.sc _ rfl) b3
    |true =>
      rw[if_pos rfl];obtain⟨v,m,aq,af⟩:=cd rfl;have bg:∀ x,x∈o.op.operands->(stf j).ev x=(Sst pl po stf pre po.size).ev x:=by
        intro x l;cases x with
        |tmp t =>
          refine(aj t ?_).symm;simp only[Ql,Xr,qM,List.mem_filterMap];exact .inl ⟨.tmp t,zUs l,rfl⟩
        |const v=>rfl
        |global g=>rfl
        |func f=>rfl
      have a8:=aq.congr bg;have:∃ R,DS P pl o (Sst pl po stf pre po.size).ev (Sst pl po stf pre po.size).mu v R/\(memW pl o=true->R=m)/\(memW pl o=false->R=(Sst pl po stf pre po.size).mu):=by
        by_cases a5:reads pl o=true
        · exact⟨_,ah a5 _ _ _ a8,fun h=>by rw[nA a5]at h;exact absurd h zSp,fun _=>rfl⟩
        simp only[Bool.not_eq_true]at a5;by_cases U:(memW pl o||memR o)=true
        · rw[ak U a5]
          refine⟨m,a8,fun _=>rfl,fun h=>(a8.mem h).1⟩
        · simp only[Zj,not_or,Bool.not_eq_true]at U
          exact⟨_,(a8.mem U.1).2 U.2 _,fun h=>by rw[U.1]at h;exact absurd h zSp,fun _=>rfl⟩
      obtain⟨R,ch,cj,ck⟩:=this;have e:=ad v R (fun t h=>by rw[af];exact(ae h).symm) (fun h=>by rw[cj h,af];rfl) ck;refine Uh r.stp.sim r.ev ch ?_ ?_
      · rintro v' cs G' w' u ⟨rfl,rfl⟩ bh hv
        refine ih (pre++[j]) _ _ G' (zUs ht) (zUs a7) (zUs a9) (zUs aa) ?_;rw[<-e];exact r.put s0 bh hv b3
      · intro _ _ _ _ _ h;exact h.elim
end
end
section
variable {ops:Array zK}{pl:Pol}{P:qb}
theorem Xw{i g}:∀ m,Sst pl i g [] m=g 0:=by
 intro m;induction m with
 |zero=>rfl
 |succ m j=>simp_all[Sst]
theorem nD{ro C g I n}(U:Sim C g I.heap)(j:(ops.toList.all fun o=>dOk n o.dst)=true)
  {Q} {Qp} {QQ} (hQ:∀ st a w G,Q st->Rel ro C g I n G st a w->QQ .normal a w) {st} {a} {w} {G} (r:Rel ro C g I n G st a w)
  (L) (l:L.length=ops.size) (J:∀ k,k∈L->k<ops.size) (R:L.Nodup) (p:OrdC pl ops ops L)
  (h:awpS P pl true ops ops.toList Q Qp st):wpOpsIn (WF ro) 0 P ops QQ L a w:=by
 obtain⟨t,e0,hq,hs⟩:=Xt P pl ops ops.toList st h;have T:∀(i:Nat)(o:zK),ops[i]?=some o->vB P pl ops (t i) o (t (i+1)):=fun i o ho=>hs i o (zUs ho)
 have:=Xv T U (fun i=>i) (fun k _=>rfl) j (fun a w G r=>hQ _ a w G (zUs hq) r) L [] a w G p l J R (by rw[Xw,e0];exact r);simpa using this
theorem qiY{F n}{o:zK}{a K t Q j g}(i:∀ a w,K a w->t a w)(T:∀ C a w,Q (.panic C) a w->j (.panic C) a w)(ho:LetsOut Q->LetsOut j)
  (h:o.uponIn F n P a K Q g):o.uponIn F n P a t j g:=by
 cases g with
 |halt p w=>cases p<;>first|exact h.elim|exact T _ _ _ h
 |ok nx w =>
  cases nx
  case value v=>exact i _ _ h
  case skip=>exact i _ _ h
  case defer d=>exact i _ _ h
  case enter f args =>
   refine⟨h.1,h.2.1,fun U r=>?_⟩;obtain⟨e,w',fr,hR,I⟩:=h.2.2 U r
   grind
  case row row args=>exact⟨h.1,h.2.mono fun _ _ r=>i _ _ r⟩
  case round l f J a0 R =>
   refine⟨h.1,RoundIn.mono h.2 fun e w' hR=>?_⟩
   grind
  all_goals exact h.elim
theorem Un{F n QQ}:∀ j g a w,wpOpsIn F n P ops (Exit.then (wpOpsIn F n P ops QQ g) QQ) j a w->wpOpsIn F n P ops QQ (j++g) a w
 | [],g,a,w,h=>h
 |i :: j,g,a,w,h=>by
  simp only[wpOpsIn,yP]at h⊢;cases r:ops[i]? with
  |none =>
   rw[r]at h;exact Un j g a w h
  |some o =>
   rw[r]at h;simp only at h⊢;split
   .rename_i l
    rw[if_pos l]at h;exact⟨h.1,qiY (fun a w t=>Un j g a w t) (fun C a w p=>p) (fun⟨a,w,p⟩=>⟨a,w,p⟩) h.2⟩
   .rename_i l
    rw[if_neg l]at h;exact⟨h.1,Un j g _ w h.2⟩
theorem nE(n):∀ d L,L.length=n+d->(∀ k,k∈L->k<n+d)->L.Nodup->(∀ j,n<=j->j<n+d->∀ i,i<j->Bef L i j)->∃ C,L=C++List.range' n d/\C.length=n
 | 0,L,o,_,_,_=>⟨L,zSp,zUs o⟩
 |d+1,L,o,T,r,R=>by
  have g:∀ i,i<n+(d+1)->i∈L:=by
   intro i t;refine wo fun h=>?_
   have o:(i :: L).length<=(qu (n+(d+1))).length:=vb (vP.2 ⟨h,r⟩) (fun k l=>by
    grind)
   simp at o;omega
  obtain⟨p,q,e⟩:=List.append_of_mem (g (n+d) zOm);have U:∀ i,i<n+d->i∈p:=fun i t=>R (n+d) zOm zOm i t p q e
  have a0:n+d<=p.length:=by
   have:(qu (n+d)).length<=p.length:=vb List.nodup_range (fun k l=>U k (zUs l));simpa using this
  have hq:q=[]:=by
   have:=congrArg List.length e;simp at this;exact Qd zOm
  subst hq;rw[e]at r;have I:p.Nodup:=(ZL.1 r).1;have J:n+d ∉ p:=fun h=>(ZL.1 r).2.2 _ h _ zSp rfl
  obtain⟨C,a1,a2⟩:=nE n d p (by grind) (fun k l=>by
   have:=T k (by rw[e];simp[l]);have a3:k≠n+d:=fun h=>J (h ▸ l)
   omega) I (fun j P a4 i t pre post e2=>by
   refine R j P zOm i t pre (post++[n+d]) ?_;rw[e,e2];simp)
  grind [List.range'_concat]
def Xx(pl:Pol)(ops:Array zK)(n:Nat):Bool:=
 jM ops&&decide (n<=ops.size)&&(let g:=uQ ops.toList [];(qu ops.size).all fun j=>(qu j).all fun i=>(if n<=j then (g.getD j 0).testBit i else
  match ops[i]?,ops[j]? with|some a,some b=>!yY pl ops a b||(g.getD j 0).testBit i|_,_=>true))
def vC:Nat->zK->List zK->List zK
 |d+1,x,y :: l=>y :: vC d x l
 |_,x,l=>x :: l
def jW:Nat->Nat->List zK->List zK
 | 0,d,x :: l=>vC d x l
 |n+1,d,x :: l=>x :: jW n d l
 |_,_,[]=>[]
def mvI(a b k:Nat):Nat:=if k<a then k else if k<b then k+1 else if k=b then a else k
def mvP(a b i:Nat):Nat:=if i<a then i else if i=a then b else if i<=b then i-1 else i
theorem qiZ{a b}(h:a<=b)(k):mvI a b (mvP a b k)=k:=by
 unfold mvP;split
 .unfold mvI;rw[if_pos ‹_›]
 .split
  .unfold mvI;rw[zIn,zIn,if_pos rfl];omega
  .split
   .unfold mvI;rw[zIn,if_pos zOm];omega
   .unfold mvI;rw[zIn,zIn,zIn]
theorem qi0{a b}(h:a<=b)(k):mvP a b (mvI a b k)=k:=by
 unfold mvI;split
 .unfold mvP;rw[if_pos ‹_›]
 .split
  .unfold mvP;rw[zIn,zIn,if_pos zOm];omega
  .split
   .unfold mvP;rw[zIn,if_pos rfl];omega
   .unfold mvP;rw[zIn,zIn,zIn]
theorem nF:∀ d x l,(vC d x l).length=l.length+1
 | 0,x,l=>by simp[vC]
 |d+1,x,[]=>by simp[vC]
 |d+1,x,y :: l=>by simp[vC,nF d x l]
theorem nG:∀ d x l k,d<=l.length->(vC d x l)[k]?=if k<d then l[k]? else if k=d then some x else l[k-1]?
 | 0,x,l,k,h=>by
  cases k with
  |zero=>simp[vC]
  |succ k=>simp[vC]
 |d+1,x,[],k,h=>by simp at h
 |d+1,x,y :: l,k,h=>by
  cases k with
  |zero=>simp[vC]
  |succ k =>
   simp only[vC,v6];rw[nG d x l k (zUs h)];by_cases g:k<d
   .simp [g]
   .by_cases i:k=d
    .simp [i]
    .obtain ⟨m,rfl⟩:∃ m,k=m+1:=⟨k-1,zOm⟩
     simp[g,i]
theorem Xy:∀ a d l,(jW a d l).length=l.length
 | 0,d,x :: l=>by simp[jW,nF]
 |n+1,d,x :: l=>by simp[jW,Xy n d l]
 | 0,d,[]=>rfl
 |n+1,d,[]=>rfl
theorem nH:∀ a d l k,a+d<l.length->(jW a d l)[k]?=l[mvI a (a+d) k]?
 | 0,d,[],k,h=>by simp at h
 |n+1,d,[],k,h=>by simp at h
 | 0,d,x :: l,k,h=>by
  simp only[jW];rw[nG d x l k (by simp at h;omega)];unfold mvI;by_cases g:k<d
  .simp [g]
  .by_cases i:k=d
   .simp [i]
   .obtain ⟨m,rfl⟩:∃ m,k=m+1:=⟨k-1,zOm⟩
    simp[g,i]
 |n+1,d,x :: l,k,h=>by
  cases k with
  |zero=>simp[jW,mvI]
  |succ k =>
   simp only[jW,v6];rw[nH n d l k (by simp at h;omega)];have:mvI (n+1) (n+1+d) (k+1)=mvI n (n+d) k+1:=by
    unfold mvI;rw[show n+1+d=n+d+1 by omega];simp only[Nat.add_lt_add_iff_right,Nat.add_right_cancel_iff];split
    .rfl
    .split
     .rfl
     .split<;>rfl
   rw[this,v6]
def nI(P:qb)(pl:Pol)(ops:Array zK)(Q:St->Prop)(g:AV->St->Prop)(st:St):Prop:=
 (JS pl ops=true/\awpS P pl true ops ops.toList Q g st) \/
 (∃ n,Xx pl ops n=true/\awpS P pl true ops (ops.toList.take n) (fun st=>awpS P pl false ops (ops.toList.drop n) Q g st) g st) \/
 (∃ a d,Uj pl ops a (a+d)=true/\0<d/\a+d<ops.toList.length/\awpS P pl true ops ops.toList Q g st/\awpS P pl true ops (jW a d ops.toList) Q g st)
theorem qi1{ro G0 a6 w0 n}(s0:Sim G0 a6 w0.heap)(J:(ops.toList.all fun o=>dOk n o.dst)=true)
  {Q} {Qp} {QQ} (hQ:∀ st a w G,Q st->Rel ro G0 a6 w0 n G st a w->QQ .normal a w)
  (ah:∀ v st a w G u,Qp v st->Rel ro G0 a6 w0 n G st a w->VRel G w.heap v u->QQ (.panic [{ v:=u,recovered:=false }]) a w) {st} {a} {w} {G} (r:Rel ro G0 a6 w0 n G st a w)
  (h:nI P pl ops Q Qp st) (C) (t):wpOpsIn (WF ro) 0 P ops QQ (Region.schedule C ops t) a w:=by
 have a4:∀(l:jM ops=true),Topo ops (Region.schedule C ops t)/\(Region.schedule C ops t).length=ops.size/\(∀ k,k∈Region.schedule C ops t->k<ops.size)/\(Region.schedule C ops t).Nodup:=by
  intro l;obtain⟨h1,h2⟩:=nh l C t;obtain⟨h3,h4⟩:=s8 l _ _ rfl h1;exact⟨h1,h2,fun k I=>(h3 k I).1,h4⟩
 rcases h with ⟨U,h⟩|⟨m,U,hA⟩|⟨g,d,U,hd,a7,hA,hB⟩
 .obtain ⟨l,T⟩:=qiJ U
  obtain⟨h1,h2,h3,h4⟩:=a4 l;exact nD s0 J hQ r _ h2 h3 h4 (fun i k x y a2 hx hy hc=>h1.bef l (T i k x y a2 hx hy hc)) h
 .unfold Xx at U
  rw[qH,qH,decide_eq_true_eq]at U;obtain⟨⟨l,ax⟩,T⟩:=U;obtain⟨h1,h2,h3,h4⟩:=a4 l;generalize Region.schedule C ops t=L at *
  simp only[zF,yi]at T;have ai:∀ j,m<=j->j<m+(ops.size-m)->∀ i,i<j->Bef L i j:=by
   intro j aj ay i hi;have:=T j zOm i hi;rw[if_pos aj]at this;exact h1.bef l this
  obtain⟨L1,hL,ak⟩:=nE m (ops.size-m) L zOm (fun k I=>zW1 (h3 k I)) h4 ai;have ab:L1.Nodup:=by rw[hL]at h4;exact(ZL.1 h4).1
  have ad:∀ k,k∈L1->k<m:=by
   intro k I;have az:=h3 k (by rw[hL];simp[I]);refine wo fun b0=>?_
   rw[hL]at h4;exact(ZL.1 h4).2.2 k I k (by simp[List.mem_range'];exact⟨k-m,zOm,zOm⟩) rfl
  rw[hL];refine Un L1 _ a w ?_;obtain⟨a3,e0,hq,hs⟩:=Xt P pl ops (ops.toList.take m) st hA;have a1:(ops.toList.take m).toArray.size=m:=zSo;have R:∀ k,k<m->(ops.toList.take m).toArray[k]?=ops[k]?:=by
   intro k I;simp[I]
  have aa:∀(i:Nat)(o:zK),(ops.toList.take m).toArray[i]?=some o->vB P pl ops (a3 i) o (a3 (i+1)):=fun i o ho=>hs i o (zUs ho)
  have key:=Xv (QQ:=Exit.then (wpOpsIn (WF ro) 0 P ops QQ (List.range' m (ops.size-m))) QQ) aa s0 (fun i=>i) (fun k I=>(R k zOm).symm) ?_ (fun a w G r=>?_) L1 [] a w G ?_ (by simpa[a1] using ak) (fun k I=>by rw[a1];exact ad k (zUs I)) (zUs ab) (by rw[Xw,e0];exact r)
  .simpa using key
  .rw [zF]at J⊢
   intro o ho;exact J o (List.mem_of_mem_take (zUs ho))
  .have al:awpS P pl false ops (ops.toList.drop m) Q Qp (a3 (ops.toList.take m).toArray.size):=by simpa using hq
   have ae:=Xq s0 hQ ah (ops.toList.drop m) _ a w G r (by
    rw[zF]at J⊢;intro o ho;exact J o (List.mem_of_mem_drop ho)) al
   have e:wpOpsIn (WF ro) 0 P ops QQ (List.range' m (ops.size-m))=wpListIn (WF ro) 0 P ops QQ (ops.toList.drop m):=by
    have:=wpOpsIn_eq_wpListIn (F:=WF ro) (n:=0) (P:=P) (ops:=ops) (Q:=QQ) (ops.toList.drop m) m (fun j=>zSp);simpa using this
   show wpOpsIn (WF ro) 0 P ops QQ (List.range' m (ops.size-m)) a w;rw[e];exact ae
  .simp only[vw]
   intro i k x y a2 hx hy hc pre post e;have I:k<m:=by have:=(yK.1 hy).1;omega
   rw[R i zOm]at hx;rw[R k I]at hy;have a5:=T k zOm i a2;rw[zIn,hx,hy]at a5;simp only[hc,Bool.not_true,Bool.false_or]at a5;exact h1.bef l a5 pre (post++List.range' m (ops.size-m)) (by rw[hL,e];simp)
 .obtain ⟨l,T,af⟩:=qiK U
  obtain⟨h1,h2,h3,h4⟩:=a4 l;generalize Region.schedule C ops t=L at *
  have a8:∀ i,i<ops.size->i∈L:=by
   intro i hi;refine wo fun h=>?_
   have h1:(i :: L).length<=(qu ops.size).length:=vb (vP.2 ⟨h,h4⟩) (fun k I=>by
    rcases qy.1 I with rfl|I
    .simpa using hi
    .simpa using (h3 k I))
   simp at h1;omega
  have ag:g+d<ops.size:=zUs a7;rcases s6 (a8 g zOm) (a8 (g+d) ag) zOm with hb|hb
  .refine nD s0 J hQ r _ h2 h3 h4 (fun i k x y a2 hx hy hc=>?_) hA
   by_cases he:i=g/\k=g+d
   .rw [he.1,he.2];exact hb
   .exact h1.bef l (T i k x y a2 he hx hy hc)
  .obtain ⟨a3,e0,hq,hs⟩:=Xt P pl ops (jW g d ops.toList) st hB
   have R:∀ k:Nat,(jW g d ops.toList).toArray[k]?=ops[mvI g (g+d) k]?:=by
    intro k;have:=nH g d ops.toList k a7;simpa using this
   have a1:(jW g d ops.toList).toArray.size=ops.size:=by simp[Xy]
   have aa:∀(i:Nat)(o:zK),(jW g d ops.toList).toArray[i]?=some o->vB P pl ops (a3 i) o (a3 (i+1)):=fun i o ho=>hs i o (zUs ho)
   have e1:∀ k,mvI g (g+d) (mvP g (g+d) k)=k:=qiZ zOm;have e2:∀ k,mvP g (g+d) (mvI g (g+d) k)=k:=qi0 zOm;have an:∀ k,k<ops.size->mvP g (g+d) k<ops.size:=by
    intro k I;unfold mvP;split
    .exact I
    .split
     .exact ag
     .split<;>omega
   have key:=Xv (QQ:=QQ) aa s0 (mvI g (g+d)) (fun k _=>(R k).symm) ?_ (fun a w G r=>hQ _ a w G (zUs hq) r) (L.map (mvP g (g+d))) [] a w G ?_ (by simpa[Xy] using h2) ?_ ?_ (by rw[Xw,e0];exact r)
   .simpa [List.map_map,Function.comp_def,e1] using key
   .rw [zF]at J⊢
    intro o ho;obtain⟨k,I⟩:=List.mem_iff_getElem?.1 ho;have:ops[mvI g (g+d) k]?=some o:=by rw[<-R];simpa using I
    exact J o (by have:=Array.mem_of_getElem? this;simpa using this)
   .simp only[vw]
    intro i k x y a2 hx hy hc p q e;rw[R]at hx hy;have ao:Bef L (mvI g (g+d) i) (mvI g (g+d) k):=by
     by_cases I:k=g+d
     .have ek:mvI g (g+d) k=g:=by unfold mvI;rw[zIn,zIn,if_pos I]
      rw[ek]at hy⊢;by_cases hi:i<g
      .have ei:mvI g (g+d) i=i:=by unfold mvI;rw[if_pos hi]
       rw[ei]at hx⊢;exact h1.bef l (T i g x y hi zOm hx hy hc)
      .have ei:mvI g (g+d) i=i+1:=by unfold mvI;rw[if_neg hi,if_pos zOm]
       rw[ei]at hx⊢;by_cases aq:i+1=g+d
       .rw [aq];exact hb
       .rw [af (i+1) x y zOm zOm hx hy]at hc
        exact absurd hc zSp
     .by_cases hi:i=g+d
      .have ei:mvI g (g+d) i=g:=by unfold mvI;rw[zIn,zIn,if_pos hi]
       have ek:mvI g (g+d) k=k:=by unfold mvI;rw[zIn,zIn,if_neg I]
       rw[ei]at hx⊢;rw[ek]at hy⊢;exact h1.bef l (T g k x y zOm zOm hx hy hc)
      .have ar:mvI g (g+d) i<mvI g (g+d) k:=by
        unfold mvI;rw[if_neg I,if_neg hi];split<;>split<;>(try split)<;>(try split)<;>omega
       have au:mvI g (g+d) i≠g:=by
        unfold mvI;rw[if_neg hi];split
        .omega
        .split<;>omega
       exact h1.bef l (T _ _ x y ar (fun h=>au h.1) hx hy hc)
    have e':L=p.map (mvI g (g+d))++mvI g (g+d) k :: q.map (mvI g (g+d)):=by
     have:=congrArg (List.map (mvI g (g+d))) e;simpa[List.map_map,Function.comp_def,e1] using this
    have:=ao _ _ e';obtain⟨z,hz,av⟩:=qn.1 this;have:z=i:=by have:=congrArg (mvP g (g+d)) av;rwa[e2,e2]at this
    exact this ▸ hz
   .intro k I
    simp only[vw,qn]at I;obtain⟨z,hz,rfl⟩:=I;rw[a1];exact an z (h3 z hz)
   .simp only[vw]
    exact List.Pairwise.map _ (fun x y aw e=>aw (by have:=congrArg (mvI g (g+d)) e;rwa[e1,e1]at this)) h4
end
end Go.Ev
namespace Go.Ev
open Go Go.RowKit
theorem qI.congr{P pl det j op ev ev' mu K C}(h:qI P pl det j op ev mu K C)(g:∀ x,x∈op.operands->ev x=ev' x):qI P pl det j op ev' mu K C:=by
 cases op<;>simp only[qI,Op.operands]at h g⊢<;>try (exact h.elim)
 case move x=>grind
 case assign x=>grind
 case makeFunc f first I =>
  grind [Yx]
 case pick c x y=>grind
 case alloc=>exact h
 case box t x=>grind
 case build t J=>rw[<-Uk g];exact h
 case buildSlice t n J=>rw[<-Uk g];exact h
 case load t x=>grind
 case store t x y=>grind
 case nilCheck x=>grind
 case binOp op t x y yt=>grind
 case unOp op t x=>grind
 case convert s t x=>grind
 case makeInterface t x=>grind
 case makeSlice t x y=>grind
 case slice t x R T U =>
  rw[<-g x zSp,<-Ul (o:=R) (fun y p=>g y (by simp only[Array.mem_append];exact .inl (.inl (.inr p)))),
   <-Ul (o:=T) (fun y p=>g y (by simp only[Array.mem_append];exact .inl (.inr p))),<-Ul (o:=U) (fun y p=>g y (by simp only[Array.mem_append];exact .inr p))]
  exact h
 case fieldAddr t x f=>grind
 case field t x f=>grind
 case indexAddr t x i=>grind
 case index t x i=>grind
 case extract x i=>grind
 case typeAssert x xt t ok=>grind
 case makeMap=>exact h
 case lookup t m k ok=>grind
 case mapUpdate t m k v=>grind
 case insert t m k v=>grind
 case mapEntry t m k=>grind
 case entryStore t m k v=>grind
 case range t m=>grind
 case next i str=>grind
 case entry i=>grind
 case panic x=>grind
 case call c =>
  obtain⟨callee,args,a0⟩:=c;cases callee with
  |invoke r m=>exact h.elim
  |value f =>
   grind [Call.operands,Yx]
  |builtin b =>
   simp only[Call.operands]at g;simp only at h⊢;rw[<-Yx (l:=args) (fun x hx=>g x (zP1 hx))];exact h
def qi2(o:zK):Bool:=
 match o.op with
 | .call c=>match c.callee with | .builtin .len | .builtin .cap | .builtin .min | .builtin .max=>false|_=>true
 | .panic _ | .next .. => true
 |_=>false
def ym(ops:Array zK)(i:Nat):Option Tmp:=(ops[i]?).bind (·.dst)
def jX(ops:Array zK)(i:Nat)(t:Tmp):Bool:=match ops[i]? with|some o=>(Ql ops o).contains t|none=>false
def Xz(ops:Array zK)(i:Nat):Bool:=match ops[i]? with|some o=>memR o|none=>false
def ZW(st:St)(d:Tmp)(mu:Mu):AV->Mu->Prop:=fun v m=>v=st.tm d/\m=mu
def noK:AV->Mu->Prop:=fun _ _=>False
end Go.Ev
namespace Go.Ev
open Go Go.RowKit
section
variable {a:Act}{ops:Array zK}{G:Gh}{O g:List Nat}{i:Nat}{o:zK}{pl:Pol}{P:qb}{st:St}{w:qd}
def ZX(o:zK):Bool:=match o.op with | .alloc _=>true|_=>false
def JT(pl:Pol)(o:zK):Nat:=if ZX o then 2 else if memW pl o||qi2 o then 1 else 0
def zX(pl:Pol)(ops:Array zK)(i:Nat):Nat:=match ops[i]? with|some o=>JT pl o|none=>0
def pend(pl:Pol)(ops:Array zK)(pre:List Nat)(j:Nat):List Nat:=pre.filter fun p=>zX pl ops p == 0&&(Xz ops p&&!(ja ops j).testBit p)
def Uo(pl:Pol)(ops:Array zK):List Nat->List Nat->Bool
 |_,[]=>true
 |pre,j :: O=>(!pre.contains j&&((qu ops.size).all fun i=>match ym ops i with|some d=>!jX ops j d||pre.contains i|none=>true)) &&
   ((zX pl ops j == 2||pre.all fun i=>zX pl ops i == 0||(ja ops j).testBit i)&&Uo pl ops (pre++[j]) O)
def Up(pl:Pol)(ops:Array zK)(O:List Nat):Bool:=
 (jM ops&&(ops.toList.all fun o=>!ZX o||o.guard.isNone))&&((O.all fun i=>decide (i<ops.size))&&((qu ops.size).all fun i=>O.contains i)) &&
 (((qu ops.size).all fun i=>match ym ops i with
  |some d=>(qu ops.size).all fun j=>(i == j||ym ops j != some d)&&(!jX ops j d||(ja ops j).testBit i)
  |none=>zX pl ops i == 1)&&Uo pl ops [] O)
structure wC (pl:Pol) (ops:Array zK) (O:List Nat):Prop where
 edges:jM ops=true
 guards:∀(i:Nat)(o:zK),ops[i]?=some o->ZX o=true->o.guard=none
 lt:∀ i,i∈O->i<ops.size
 all:∀ i,i<ops.size->i∈O
 du:∀ i j d,i<ops.size->j<ops.size->ym ops i=some d->(i≠j->ym ops j≠some d)/\(jX ops j d=true->(ja ops j).testBit i=true)
 dn:∀ i,i<ops.size->ym ops i=none->zX pl ops i=1
 ord:∀(PO lO:List Nat)(j:Nat),O=PO++j :: lO->j ∉ PO/\(∀ i d,i<ops.size->ym ops i=some d->jX ops j d=true->i∈PO)/\(zX pl ops j≠2->∀ i,i∈PO->zX pl ops i≠0->(ja ops j).testBit i=true)
theorem nJ:∀ O pre,Uo pl ops pre O=true->∀ g l j,O=g++j :: l ->
  j ∉ pre++g/\(∀ i d,i<ops.size->ym ops i=some d->jX ops j d=true->i∈pre++g)/\(zX pl ops j≠2->∀ i,i∈pre++g->zX pl ops i≠0->(ja ops j).testBit i=true)
 | [],pre,h,g,l,j,e=>by cases g<;>simp at e
 |k :: O,pre,h,g,l,j,e=>by
  simp only[Uo,qH]at h;obtain⟨⟨r,t⟩,C,o⟩:=h;cases g with
  |nil =>
   grind
  |cons p g =>
   simp only[yP,ZN]at e;obtain⟨rfl,e⟩:=e;have:=nJ O (pre++[k]) o g l j e;simpa using this
theorem qi3(h:Up pl ops O=true):wC pl ops O:=by
 unfold Up at h;simp only[qH]at h;obtain⟨⟨⟨t,l⟩,p,r⟩,C,I⟩:=h;simp only[zF,yi]at l p r C;refine⟨t,fun i o U J=>?_,fun i g=>by simpa using p i g,fun i g=>by simpa using r i g,fun i j d g hj P=>?_,fun i g P=>?_,fun R T j e=>?_⟩
 .have:=l o (by grind)
  rw[J]at this;simpa using this
 .grind
 .grind
 .have:=nJ O [] I R T j e
  simpa using this
def JU(P:qb)(pl:Pol)(o:zK)(st:St):Prop:=qI P pl true o.dst o.op st.ev st.mu (match o.dst with|some d=>ZW st d st.mu|none=>noK) noK
def uR(P:qb)(pl:Pol)(ops:Array zK):List Nat->St->Prop
 | [],_=>True
 |p :: l,T=>(match ops[p]? with|some o=>OptK (yG ops T o) fun b=>Br b (JU P pl o T) True|none=>True)/\uR P pl ops l T
theorem XA:∀{l},uR P pl ops l st->∀{i o d},i∈l->ops[i]?=some o->o.dst=some d->yG ops st o=some true->DS P pl o st.ev st.mu (st.tm d) st.mu
 | [],_,i,_,_,p,_,_,_=>absurd p qG
 |j :: l,h,i,o,d,p,t,C,I=>by
  obtain⟨g,J⟩:=h;rcases qy.1 p with rfl|p
  .rw [t]at g
   obtain⟨b,r,g,_⟩:=g;rw[I]at r;have g:JU P pl o st:=g (by cases r;rfl);unfold JU at g;have e:(match o.dst with|some d=>ZW st d st.mu|none=>noK)=ZW st d st.mu:=by rw[C]
   rw[e]at g;exact g
  .exact XA J p t C I
def plan(pl:Pol)(ops:Array zK):List Nat->List Nat->List (Nat×Nat×List Nat)
 |_,[]=>[]
 |pre,j :: O=>(j,zX pl ops j,if zX pl ops j=0 then [] else pend pl ops pre j) :: plan pl ops (pre++[j]) O
def Qm(P:qb)(ops:Array zK):List (Nat×Nat×List Nat)->Prop
 | []=>True
 | (j,k,_) :: T=>(match k,ops[j]? with|2,some o=>(match o.op with | .alloc e=>OptK (qB P e) fun z=>z.cells.all AV.one=true|_=>False)|_,_=>True)/\Qm P ops T
def awpT(P:qb)(pl:Pol)(ops:Array zK)(Q:St->Prop)(i:AV->St->Prop):List (Nat×Nat×List Nat)->St->Prop
 | [],g=>Q g
 | (j,k,r) :: T,g=>match ops[j]? with
  |none=>False
  |some o=>OptK (yG ops g o) fun b=>Br b (qI P pl (k != 1) o.dst o.op g.ev g.mu (fun v m=>uR P pl ops r (g.put o.dst v m)/\awpT P pl ops Q i T (g.put o.dst v m)) (fun v m=>k=1/\∀ l,i v ⟨l,m⟩)) (awpT P pl ops Q i T (g.put o.dst (.sc qU) g.mu))
def SegA(P:qb)(pl:Pol)(ops:Array zK)(Q:St->Prop)(g:AV->St->Prop)(st:St):Prop:=
 ∃ O,Up pl ops O=true/\Qm P ops (plan pl ops [] O)/\awpT P pl ops Q g (plan pl ops [] O) st
theorem s9{ro G0 a8 w0 n}(r:Rel ro G0 a8 w0 n G st a w){d:Tmp}{b e zv}(h1:(ofV zv).cells.all AV.one=true)
  (ht:a.tmps.getD d qU = .pointer (some ⟨b,0,none⟩)) (hb:w.heap[b]?=some (.cells zv.cells e)) (a2:w0.heap.size<=b) (hl:¬Live G st.mu b) (I:¬G.imm b) :
  Rel ro G0 a8 w0 n ⟨G.imm,G.blk++[(b,zv.cells.size)]⟩ (st.put (some d) (.ptr st.mu.length 0) (st.mu++[.arr (ofV zv).cells])) a w:=by
 have s:=r.stp.sim;have a1:=s.len;have J:G.le ⟨G.imm,G.blk++[(b,zv.cells.size)]⟩:=⟨fun b h=>h,fun i x h=>by
  grind⟩
 have he:=Ext.refl G w.heap;have o:∀{i:Nat}{c':Cell}{g C:Nat},i<st.mu.length->(G.blk++[(b,zv.cells.size)])[i]?=some (g,C)->G.blk[i]?=some (g,C):=fun {i c' g C} I hk=>by
  grind
 have new:∀{i g C:Nat},i=st.mu.length->(G.blk++[(b,zv.cells.size)])[i]?=some (g,C)->(g,C)=(b,zv.cells.size):=fun {i g C} I hk=>by
  grind
 have P:∀ x,Live ⟨G.imm,G.blk++[(b,zv.cells.size)]⟩ (st.mu++[.arr (ofV zv).cells]) x->Live G st.mu x\/x=b:=fun x ⟨i,c',t',hc,hd,hk⟩=>by
  rcases yA hc with ⟨I,l⟩|⟨I,l⟩
  .exact .inl ⟨i,c',t',l,hd,o (c':=c') I hk⟩
  grind
 have a3:uw G w.heap zv.cells.size (.cells zv.cells e) (.arr (ofV zv).cells):=by
  have hv:VRel G w.heap (ofV zv) zv:=VRel.ofV zv;obtain⟨ag,T,_⟩:=hv.cells (fun c hc=>by simpa using zF.1 h1 c hc);exact⟨zv.cells,e,rfl,rfl,zOm,fun j y hj=>⟨by grind,T j y hj⟩⟩
 have a9:Sim ⟨G.imm,G.blk++[(b,zv.cells.size)]⟩ (st.mu++[.arr (ofV zv).cells]) w.heap:=by
  refine⟨zP1 a1,s.imm,?_,?_,?_,s.tab⟩
  .intro i c' g R hc hd hk
   rcases yA hc with ⟨I,l⟩|⟨I,l⟩
   .obtain ⟨o',q1,q2⟩:=s.obj i c' g R l hd (o (c':=c') I hk)
    exact⟨o',q1,q2.mono J he⟩
   .obtain ⟨rfl,rfl⟩:=Prod.mk.inj (new I hk)
    subst l;exact⟨_,hb,a3.mono J he⟩
  .intro i c' g R hc hd hk aa
   rcases yA hc with ⟨I,l⟩|⟨ab,l⟩
   .exact s.live i c' g R l hd (o (c':=c') I hk) aa
   grind
  .intro i j ci cj x ti tj ab af ad ae a4 a5
   rcases yA ab with ⟨U,a6⟩|⟨U,a6⟩<;>rcases yA af with ⟨a0,a7⟩|⟨a0,a7⟩
   .exact s.inj i j ci cj x ti tj a6 a7 ad ae (o (c':=ci) U a4) (o (c':=cj) a0 a5)
   .have a:=o (c':=ci) U a4
    have c:=new a0 a5;obtain⟨rfl,_⟩:=Prod.mk.inj c;exact absurd ⟨i,ci,ti,a6,ad,a⟩ hl
   .have a:=o (c':=cj) a0 a5
    have c:=new U a4;obtain⟨rfl,_⟩:=Prod.mk.inj c;exact absurd ⟨j,cj,tj,a7,ae,a⟩ hl
   .omega
 refine⟨fun t=>?_,fun h=>?_,r.size,⟨r.stp.le.trans J,a9,r.stp.keep,r.stp.size,fun x hx=>?_,r.stp.inew,r.stp.tape,r.stp.os,r.stp.output,r.stp.drawn⟩,fun p hp=>(r.kp p hp).mono J he⟩
 .by_cases e:t=d
  .subst e
   have:(st.put (some t) (.ptr st.mu.length 0) (st.mu++[.arr (ofV zv).cells])).tm t = .ptr st.mu.length 0:=by simp[St.put]
   rw[this,ht];refine .ptr _ _ _ zv.cells.size ?_;show (G.blk++[_])[st.mu.length]?=_;rw[<-a1];simp
  .rw [vg (fun h=>e (by cases h;rfl))]
   exact(r.tm t).mono J he
 .obtain ⟨Ds,q1,q2,q3⟩:=r.df h
  refine⟨Ds,q1,q2,fun D hD=>⟨(q3 D hD).1,(q3 D hD).2.obj,fun hx=>?_,(q3 D hD).2.nimm⟩⟩;rcases P D hx with hx|rfl
  .exact (q3 D hD).2.nlive hx
  .have:=(q3 D hD).2.obj
   rw[hb]at this;cases this
 .rcases P x hx with hx|rfl
  .exact r.stp.live x hx
  .exact .inr a2
def behind(pl:Pol)(ops:Array zK)(g j pre:List Nat)(t:Tmp):Prop:=(∃ i,i∈g/\i ∉ pre/\ym ops i=some t)\/∃ i,i∈j/\zX pl ops i=2/\ym ops i=some t
open Classical in
noncomputable def jN(pl:Pol)(ops:Array zK)(g i pre:List Nat)(st:St):St:=⟨fun t=>if behind pl ops g i pre t then .any else st.tm t,st.mu⟩
theorem ud{i pre t}(h:¬behind pl ops g i pre t):(jN pl ops g i pre st).tm t=st.tm t:=by
 unfold jN;simp only;rw[if_neg h]
theorem Yy{i pre t}(h:behind pl ops g i pre t):(jN pl ops g i pre st).tm t = .any:=by
 unfold jN;simp only;rw[if_pos h]
structure AlF (P:qb) (ops:Array zK) (G:Gh) (mu:Mu) (base:Nat) (a:Act) (w:qd) (i b:Nat):Prop where
 x:∃(o:zK) (e:qc) (d:Tmp) (zv:qf),ops[i]?=some o/\o.op = .alloc e/\o.dst=some d/\qB P e=some (ofV zv)/\a.tmps.getD d qU = .pointer (some ⟨b,0,none⟩)/\w.heap[b]?=some (.cells zv.cells e)
 base:base<=b
 nl:¬Live G mu b
 ni:¬G.imm b
theorem AlF.lt{mu base b}(h:AlF P ops G mu base a w i b):b<w.heap.size:=by
 obtain⟨o,e,d,g,_,_,_,_,_,j⟩:=h.x
 grind
theorem AlF.step{G' mu mu' base r w' b}(h:AlF P ops G mu base a w i b)(t:Stp G mu w G' mu' w')(U:∀ d,ym ops i=some d->r.tmps.getD d qU=a.tmps.getD d qU):AlF P ops G' mu' base r w' i b:=by
 have l:=h.lt;obtain⟨o,e,d,C,I,p,J,R,hp,T⟩:=h.x;refine⟨⟨o,e,d,C,I,p,J,R,?_,?_⟩,h.base,fun j=>?_,fun g=>?_⟩
 .grind [ym]
 .rw [t.keep b l h.nl];exact T
 .rcases t.live b j with j|j
  .exact h.nl j
  .omega
 .rcases t.inew b g with g|g|g
  .exact h.ni g
  .exact h.nl g
  .omega
theorem Rel.weak{ro j i l n g}(r:Rel ro j i l n G st a w)(o:g.mu=st.mu)(p:∀ t,g.tm t = .any\/g.tm t=st.tm t):Rel ro j i l n G g a w:=by
 refine⟨fun t=>?_,fun h=>by rw[o];exact r.df h,r.size,by rw[o];exact r.stp,r.kp⟩;rcases p t with e|e
 .rw [e];exact .any _
 .rw [e];exact r.tm t
def DG(P:qb)(pl:Pol)(ops:Array zK)(o:zK)(st:St)(d:Tmp)(m:Mu):Prop:=∃ b,yG ops st o=some b/\(b=true->DS P pl o st.ev m (st.tm d) m)/\(b=false->st.tm d = .sc qU)
theorem DG.re{d m g}(h:DG P pl ops o st d m)(l:memW pl o=false)(p:memR o=true->yG ops st o=some true->DS P pl o st.ev g (st.tm d) g):DG P pl ops o st d g:=by
 obtain⟨b,i,r,t⟩:=h;refine⟨b,i,fun e=>?_,t⟩;subst e;cases j:memR o with
 |true=>exact p j i
 |false=>exact((r rfl).mem l).2 j g
theorem Uq{g}(h:∀ t,(Ql ops o).contains t=true->g.tm t=st.tm t):yG ops g o=yG ops st o:=by
 grind [yG,bind,Ql]
theorem qi4(h:o.guard=none):yG ops st o=some true:=by
 unfold yG;rw[h]
structure SegI (P:qb) (pl:Pol) (ops:Array zK) (O:List Nat) (ro:Ro) (G0:Gh) (mu0:Mu) (w0:qd) (n:Nat) (Q:St->Prop) (Qp:AV->St->Prop) (pre:List Nat) (a:Act) (w:qd) (PO lO:List Nat) (st:St) (G:Gh) (B:Nat->Nat):Prop where
 split:O=PO++lO
 awp:awpT P pl ops Q Qp (plan pl ops PO lO) st
 s:∀ i,i∈PO->zX pl ops i≠0->i∈pre
 d:∀ i,i∈pre->zX pl ops i≠2->i∈PO
 p:∀ i o d,i∈PO->i ∉ pre->ops[i]?=some o->o.dst=some d->DG P pl ops o st d st.mu
 al:∀ i,i∈lO->i∈pre->AlF P ops G st.mu w0.heap.size a w i (B i)
 inj:∀ i j,i∈lO->j∈lO->i∈pre->j∈pre->i≠j->B i≠B j
 rel:Rel ro G0 mu0 w0 n G (jN pl ops PO lO pre st) a w
theorem Ur{k}(g:ops[k]?=some o){t}(i:Operand.tmp t∈o.op.operands):jX ops k t=true:=by
 simp only[jX,g,List.contains_iff_mem,Ql,Xr,qM,List.mem_filterMap];exact .inl ⟨.tmp t,zUs i,rfl⟩
theorem wC.disj{j}(K:wC pl ops O)(h:O=g++j){i}(l:i∈j):i ∉ g:=by
 obtain⟨s,t,rfl⟩:=List.append_of_mem l;have:=(K.ord (g++s) t i (by rw[h];simp)).1
 grind
theorem wC.rd{j}(K:wC pl ops O)(h:O=j++g){i e d}(o:i∈j)(l:e∈g)(p:ym ops e=some d):jX ops i d=false:=by
 cases r:jX ops i d with
 |false=>rfl
 |true =>
  obtain⟨s,t,rfl⟩:=List.append_of_mem o;have:=(K.ord s (t++g) i (by rw[h];simp)).2.1 e d (K.lt e (by rw[h];simp[l])) p r;exact absurd (jt _ this) (K.disj h l)
theorem XB(g:ops[i]?=some o)(h:zX pl ops i=0):memW pl o=false:=by
 unfold zX at h;rw[g]at h;simp only[JT]at h
 grind
theorem qi5(g:ops[i]?=some o)(h:zX pl ops i=2):∃ e,o.op = .alloc e:=by
 grind [zX,JT,ZX]
theorem nK(pl ops i):zX pl ops i=0\/zX pl ops i=1\/zX pl ops i=2:=by
 unfold zX;split
 .unfold JT
  split
  .exact .inr (.inr rfl)
  grind
 .exact .inl rfl
section
variable {P:qb} {pl:Pol} {ops:Array zK} {O:List Nat} {ro:Ro} {G0:Gh} {mu0:Mu} {w0:qd} {n:Nat} {Q:St->Prop} {Qp:AV->St->Prop} {pre:List Nat} {a:Act} {w:qd}
theorem fS(K:wC pl ops O){PO lO e}(C:O=PO++e :: lO){st:St}{i o j}{d:Tmp}(J:i∈PO)(ho:ops[i]?=some o)(R:ops[e]?=some j)(hd:o.dst=some d){m I v}(h:DS P pl o st.ev m (st.tm d) m) :
  DS P pl o (st.put j.dst v I).ev m ((st.put j.dst v I).tm d) m:=by
 have l:e∈e :: lO:=zg ..;have T:i≠e:=fun h=>K.disj C l (h ▸ J)
 have U:i<ops.size:=K.lt i (by rw[C];simp[J]);have p:e<ops.size:=K.lt e (by rw[C];simp);have a0:ym ops i=some d:=by simp[ym,ho,hd]
 have r:ym ops e=j.dst:=by simp[ym,R]
 have e1:(st.put j.dst v I).tm d=st.tm d:=vg (fun h=>(K.du i e d U p a0).1 T (by rw[r];exact h));rw[e1];refine h.congr fun x hx=>?_
 cases x with
 |tmp t =>
  show st.tm t=(st.put j.dst v I).tm t;refine(vg fun h=>?_).symm;have h1:=K.rd C J l (by rw[r];exact h)
  grind [Ur]
 |const v=>rfl
 |global g=>rfl
 |func f=>rfl
theorem fT(K:wC pl ops O){PO lO e}(g:O=PO++e :: lO){st i o I d}(J:i∈PO)(R:ops[i]?=some o)(j:ops[e]?=some I)(hd:o.dst=some d){m m' v}(h:DG P pl ops o st d m) :
  DG P pl ops o (st.put I.dst v m') d m:=by
 obtain⟨b,hb,l,h2⟩:=h;have p:e∈e :: lO:=zg ..;have T:i≠e:=fun h=>K.disj g p (h ▸ J)
 have U:i<ops.size:=K.lt i (by rw[g];simp[J]);have r:e<ops.size:=K.lt e (by rw[g];simp);have a0:ym ops i=some d:=by simp[ym,R,hd]
 have C:ym ops e=I.dst:=by simp[ym,j]
 have e1:(st.put I.dst v m').tm d=st.tm d:=vg (fun h=>(K.du i e d U r a0).1 T (by rw[C];exact h));refine⟨b,?_,fun e=>fS K g J R j hd (l e),fun e=>by rw[e1];exact h2 e⟩;rw[Uq fun t ht=>?_]
 .exact hb
 .refine vg fun h=>?_
  have l:=K.rd g J p (by rw[C];exact h);simp only[jX,R]at l;rw[ht]at l;cases l
theorem fK(K:wC pl ops O){PO T e st G B}(h:SegI P pl ops O ro G0 mu0 w0 n Q Qp pre a w PO (e :: T) st G B)(hk:zX pl ops e=0) :
  ∃ a5,SegI P pl ops O ro G0 mu0 w0 n Q Qp pre a w (PO++[e]) T a5 G B:=by
 have a6:e∈e :: T:=zg ..;have R:=K.disj h.split a6;have a7:e ∉ pre:=fun U=>R (h.d e U zOm)
 have r:e<ops.size:=K.lt e (by rw[h.split];simp);have ho:ops[e]?=some ops[e]:=zP1 r;generalize ops[e]=o at ho;have hw:=h.awp;simp only[plan,hk,awpT,ho]at hw;obtain⟨b,hb,a8,ad⟩:=hw;have hw:∃ v,(b=true->DS P pl o st.ev st.mu v st.mu)/\(b=false->v = .sc qU)/\awpT P pl ops Q Qp (plan pl ops (PO++[e]) T) (st.put o.dst v st.mu):=by
  cases b with
  |false=>grind
  |true =>
   obtain⟨v,m,a0,a4⟩:=qI.det (o:=o) (h:=a8 rfl);obtain rfl:=(a0.mem (XB ho hk)).1
   grind
 obtain⟨v,a0,a9,a4⟩:=hw;have C:ym ops e=o.dst:=by simp[ym,ho]
 cases hd:o.dst with
 |none=>have:=K.dn e r (by rw[C,hd]);omega
 |some d =>
  rw[hd]at C;have aa:O=(PO++[e])++T:=by rw[h.split];simp
  refine⟨st.put o.dst v st.mu,aa,a4,fun i l a1=>?_,fun i l a1=>?_,fun i o' d' l a2 I J=>?_,fun i l a2=>h.al i (q8 _ l) a2,fun i j l hj=>h.inj i j (q8 _ l) (q8 _ hj),?_⟩
  .rcases qM.1 l with l|l
   .exact h.s i l a1
   grind
  .exact jt _ (h.d i l a1)
  .show DG P pl ops o' (st.put o.dst v st.mu) d' st.mu
   rcases qM.1 l with l|l
   .exact fT K h.split l I ho J (h.p i o' d' l a2 I J)
   .rw [qV]at l;subst l
    rw[ho]at I;cases I;rw[hd]at J;cases J;have e1:(st.put o.dst v st.mu).tm d=v:=by simp[St.put,hd]
    have ab:∀ t,jX ops i t=true->(st.put o.dst v st.mu).tm t=st.tm t:=fun t ht=>by
     refine vg fun U=>?_
     have a3:t=d:=by rw[hd]at U;cases U;rfl
     subst a3;exact R ((K.ord PO T i h.split).2.1 i t r C ht)
    refine⟨b,by grind [Uq,jX],fun e=>?_,fun e=>by rw[e1];exact a9 e⟩;rw[e1];refine(a0 e).congr fun x hx=>?_
    cases x with
    |tmp t =>
     show st.tm t=(st.put o.dst v st.mu).tm t;exact(ab t (Ur ho hx)).symm
    |const v=>rfl
    |global g=>rfl
    |func f=>rfl
  .refine h.rel.weak rfl fun t=>?_
   by_cases hb:behind pl ops (PO++[e]) T pre t
   .exact .inl (Yy hb)
   .right
    rw[ud hb];have a3:o.dst≠some t:=fun U=>hb (.inl ⟨e,zSp,a7,by rw[C];rw[hd]at U;exact U⟩)
    rw[vg a3,ud];rintro (⟨i,h1,h2,h3⟩|⟨i,h1,h2,h3⟩)
    .exact hb (.inl ⟨i,jt _ h1,h2,h3⟩)
    .rcases qy.1 h1 with rfl|h1
     .omega
     .exact hb (.inr ⟨i,h1,h2,h3⟩)
theorem fA(K:wC pl ops O)(ag:∀ i k,(ja ops k).testBit i=true->k∈pre->i∈pre){PO lO e st G B}(h:SegI P pl ops O ro G0 mu0 w0 n Q Qp pre a w PO (e :: lO) st G B)(hk:zX pl ops e=2)(a3:e∈pre) :
  ∃ a8 G',SegI P pl ops O ro G0 mu0 w0 n Q Qp pre a w (PO++[e]) lO a8 G' B:=by
 have a1:e∈e :: lO:=zg ..;have ah:=K.disj h.split a1;have ai:e<ops.size:=K.lt e (by rw[h.split];simp);have C:=h.al e a1 a3;obtain⟨o,ty,d,zv,ho,a4,hd,hz,hp,U⟩:=C.x;have a9:ym ops e=some d:=by simp[ym,ho,hd]
 have I:=h.awp;simp only[plan,hk,awpT,ho]at I;rw[qi4 (K.guards e o ho (by simp[ZX,a4]))]at I;obtain⟨b,aa,I,_⟩:=I;have I:=I (by cases aa;rfl);simp only[a4]at I;simp only[qI]at I;obtain⟨z,aj,h1,ab,ad⟩:=I;have:z=ofV zv:=by
  grind
 subst this;have a5:O=(PO++[e])++lO:=by rw[h.split];simp
 have a6:=s9 (st:=jN pl ops PO (e :: lO) pre st) h.rel h1 hp U C.base C.nl C.ni;refine⟨st.put o.dst (.ptr st.mu.length 0) (st.mu++[.arr (ofV zv).cells]),⟨G.imm,G.blk++[(B e,zv.cells.size)]⟩,a5,ad,fun i g l=>?_,fun i g l=>?_,fun i o' d' g r J a2=>?_,fun i g r=>?_,fun i j g hj=>h.inj i j (q8 _ g) (q8 _ hj),?_⟩
 .rcases qM.1 g with g|g
  .exact h.s i g l
  grind
 .exact jt _ (h.d i g l)
 .have g:i∈PO:=by
   grind
  have l:zX pl ops i=0:=by
   by_cases hh:zX pl ops i=0
   .exact hh
   .exact absurd (h.s i g hh) r
  refine(fT K h.split g J ho a2 (h.p i o' d' g r J a2)).re (XB J l) fun hm U=>?_
  refine XA ab (i:=i) ?_ J a2 U;rw[zIn];refine jH.2 ⟨g,?_⟩
  grind [ja,absurd,Xz]
 .have ae:i≠e:=fun hh=>by
   subst hh;exact K.disj a5 g zSp
  have R:=h.al i (q8 _ g) r;refine⟨R.x,R.base,fun hl=>?_,R.ni⟩;obtain⟨j,c,t,hc,af,a7⟩:=hl;have a0:=h.rel.stp.sim.len;have a0:G.blk.length=st.mu.length:=a0;rcases yA hc with ⟨q1,q2⟩|⟨q1,q2⟩
  .rcases yA a7 with ⟨_,q3⟩|⟨q3,_⟩
   .exact R.nl ⟨j,c,t,q2,af,q3⟩
   .omega
  .rcases yA a7 with ⟨q3,_⟩|⟨_,q3⟩
   .omega
   .exact h.inj i e (q8 _ g) a1 r a3 ae (Prod.mk.inj q3).1
 .refine a6.weak rfl fun t=>?_
  by_cases U:behind pl ops (PO++[e]) lO pre t
  .exact .inl (Yy U)
  .right
   rw[ud U,hd];by_cases T:t=d
   .subst T;simp[St.put];rfl
   .rw [vg (fun h'=>T (by cases h';rfl)),vg (fun h'=>T (by cases h';rfl)),ud]
    rintro (⟨i,h1,h2,h3⟩|⟨i,h1,h2,h3⟩)
    .exact U (.inl ⟨i,jt _ h1,h2,h3⟩)
    .rcases qy.1 h1 with rfl|h1
     .rw [a9]at h3;cases h3;exact T rfl
     .exact U (.inr ⟨i,h1,h2,h3⟩)
theorem fC(K:wC pl ops O)(g:∀ i k,(ja ops k).testBit i=true->k∈pre->i∈pre){B}:∀ es j l st G,SegI P pl ops O ro G0 mu0 w0 n Q Qp pre a w j (es++l) st G B->(∀ i,i∈es->zX pl ops i≠1/\(zX pl ops i=2->i∈pre)) ->
  ∃ p G',SegI P pl ops O ro G0 mu0 w0 n Q Qp pre a w (j++es) l p G' B
 | [],j,l,st,G,h,_=>⟨st,G,zUs h⟩
 |e :: es,j,l,st,G,h,r=>by
  obtain⟨c1,c2⟩:=r e (zg ..);rcases nK pl ops e with o|o|o
  .obtain ⟨st1,t⟩:=fK K h o
   obtain⟨st2,I,J⟩:=fC K g es (j++[e]) l st1 G t fun i C=>r i (q8 _ C)
   grind
  .exact absurd o c1
  .obtain ⟨st1,R,t⟩:=fA K g h o (c2 o)
   obtain⟨st2,I,J⟩:=fC K g es (j++[e]) l st1 R t fun i C=>r i (q8 _ C)
   grind
end
end
section
variable {ops:Array zK}{P:qb}
theorem fP{G mu w}(s:Sim G mu w.heap)(o):Stp G mu w G mu (w.alloc o):=by
 have g:=WV s o;refine⟨.refl G,⟨s.len,fun b j=>Yk (s.imm b j) g.size,?_,s.live,s.inj,s.tab.mono (fun _ h=>h) g.keep⟩,fun b j _=>ZP w o b j,g.size,fun b h => .inl h,fun b h => .inl h,rfl,rfl,rfl,qr _⟩;intro i c l p r t C;obtain⟨I,P,J⟩:=s.obj i c l p r t C;exact⟨I,by grind [ZP,yK],J.mono (.refl G) g⟩
theorem qi6{ro}{o:zK}{e}(g:o.op = .alloc e){z}(j:qB P e=some z){a w next Q}
  (h:∀ zv,z=ofV zv->next (a.put o.dst (.pointer (some ⟨w.heap.size,0,none⟩))) (w.alloc (.cells zv.cells e))):o.wpIn (WF ro) 0 P a w next Q:=by
 obtain⟨l,op,r,pos,after,guard⟩:=o;simp only at g h;subst g;refine⟨fun _ _=>trivial,?_⟩;rw[show (WF ro).round=ro.rd from rfl,Oper.semAt_eq _ _ _ (fun c e=>by cases e)];obtain⟨zv,i,p⟩:=ZR j w;refine gY ?_;have t:(newVar e zv).run P w = .ok ⟨w.heap.size,0,none⟩ (w.alloc (.cells zv.cells e)):=rfl;simp_all[execOp,Instr.alloc,qS,qW,Oper.upon]
theorem qi7{pl ro G0 aa w0 n}(s0:Sim G0 aa w0.heap)(b8:(ops.toList.all fun o=>dOk n o.dst)=true)
  {Q} {Qp} {QQ} (hQ:∀ st a w G,Q st->Rel ro G0 aa w0 n G st a w->QQ .normal a w)
  (bk:∀ v st a w G u,Qp v st->Rel ro G0 aa w0 n G st a w->VRel G w.heap v u->QQ (.panic [{ v:=u,recovered:=false }]) a w) {st} {a} {w} {G} (r:Rel ro G0 aa w0 n G st a w)
  (h:SegA P pl ops Q Qp st) (ab) (t):wpOpsIn (WF ro) 0 P ops QQ (Region.schedule ab ops t) a w:=by
 obtain⟨O,bm,b9,h⟩:=h;have K:=qi3 bm;obtain⟨h1,h2⟩:=nh K.edges ab t;obtain⟨h3,h4⟩:=s8 K.edges _ _ rfl h1;have h3:=fun k hk=>(h3 k hk).1
 generalize Region.schedule ab ops t=L at *
 have bb:∀ i,i<ops.size->i∈L:=by
  intro i l;refine wo fun hn=>?_
  have bn:(i :: L).length<=(qu ops.size).length:=vb (vP.2 ⟨hn,h4⟩) (fun k hk=>by
   grind)
  simp at bn;omega
 have ay:∀(i:Nat)(o:zK)(e:qc),ops[i]?=some o->o.op = .alloc e->∃ z,qB P e=some z:=by
  have gen:∀(O pre:List Nat),Qm P ops (plan pl ops pre O)->∀ i,i∈O->∀(o:zK)(e:qc),ops[i]?=some o->o.op = .alloc e->∃ z,qB P e=some z:=by
   intro O;induction O with
   |nil=>grind
   |cons j O ih =>
    intro pre hn i l o e ho a9;simp only[plan,Qm]at hn;rcases qy.1 l with rfl|l
    .have hk:zX pl ops i=2:=by
      unfold zX;rw[ho];simp[JT,ZX,a9]
     have hn:=hn.1;rw[hk,ho]at hn;simp only[a9]at hn;obtain⟨z,hz,_⟩:=hn;exact⟨z,hz⟩
    grind
  exact fun i o e ho a9=>gen O [] b9 i (K.all i (yK.1 ho).1) o e ho a9
 have key:∀(post pre:List Nat)(a:Act)(w:qd)(G:Gh)(PO lO:List Nat)(ad:St)(B:Nat->Nat),L=pre++post->SegI P pl ops O ro G0 aa w0 n Q Qp pre a w PO lO ad G B->wpOpsIn (WF ro) 0 P ops QQ post a w:=by
  intro post;induction post with
  |nil =>
   intro pre a w G PO lO ad B hL I;rw[zO]at hL;subst hL;have az:∀ i,i<ops.size->i∈L:=bb;obtain⟨st2,G2,I2⟩:=fC K (fun i k hb hk=>h3 k hk |> fun _=>by
    have:=h1.bef K.edges hb;obtain⟨s,t,e⟩:=List.append_of_mem hk;have:=this s t e
    grind) lO PO [] ad G (by simpa using I) (fun i l=>by
    have bc:=K.lt i (by rw[I.split];simp[l]);refine⟨fun hk=>K.disj I.split l (I.d i (az i bc) zOm),fun _=>az i bc⟩)
   simp only[wpOpsIn];have hw:=I2.awp;simp only[plan,awpT]at hw;refine hQ st2 a w G2 hw (I2.rel.weak rfl fun t => .inr ?_);refine(ud ?_).symm;rintro (⟨i,q1,q2,q3⟩|⟨i,q1,_⟩)
   .exact q2 (az i (K.lt i (by rw[I2.split];simp;simpa using q1)))
   grind
  |cons k post ih =>
   intro pre a w G PO lO ad B hL I;have hk:k<ops.size:=h3 k (by rw[hL];simp);have cd:(pre++k :: post).Nodup:=by rw[<-hL];exact h4
   have b0:k ∉ pre:=fun hh=>by
    grind
   have ho:ops[k]?=some ops[k]:=zP1 hk;generalize cb:ops[k]=o at ho;have aj:dOk n o.dst=true:=zF.1 b8 o (by grind);have bef:∀ i,(ja ops k).testBit i=true->i∈pre:=fun i l=>h1.bef K.edges l pre post hL
   have be:∀ i j,(ja ops j).testBit i=true->j∈pre->i∈pre:=fun i j hb hj=>by
    obtain⟨s,t,e⟩:=List.append_of_mem hj;have:=h1.bef K.edges hb s (t++k :: post) (by rw[hL,e];simp);rw[e];exact jt _ this
   have b1:L=(pre++[k])++post:=by rw[hL];simp
   have ae:ym ops k=o.dst:=by simp[ym,ho]
   have ak:∀(i:Nat)(d:Tmp),i<ops.size->i≠k->ym ops i=some d->∀ u,(a.put o.dst u).tmps.getD d qU=a.tmps.getD d qU:=fun i d l R hd u=>by
    cases bo:o.dst with
    |none=>rfl
    |some x =>
     have bq:x≠d:=fun e=>(K.du i k d l hk hd).1 R (by rw[ae,bo,e])
     simp only[Act.put,zc];rw[Array.getElem?_setIfInBounds_ne bq]
   have au:∀(U a0:List Nat),lO=U++a0->(∀ i,i∈U->zX pl ops i≠0->(ja ops k).testBit i=true)->∃ b2 G',SegI P pl ops O ro G0 aa w0 n Q Qp pre a w (PO++U) a0 b2 G' B:=fun U a0 e hm=>by
    subst e;refine fC K be U PO a0 ad G I fun i l=>⟨fun T=>?_,fun T=>bef i (hm i l zOm)⟩
    have:=I.d i (bef i (hm i l zOm)) zOm;exact K.disj I.split (jt _ l) this
   have av:∀(PO lO:List Nat)(G:Gh)(st:St),SegI P pl ops O ro G0 aa w0 n Q Qp pre a w PO lO st G B->(∀ i d,i<ops.size->ym ops i=some d->jX ops k d=true->i∈PO)->∀ t,jX ops k t=true->(jN pl ops PO lO pre st).tm t=st.tm t:=by
    intro PO lO G st I aw t ht;refine ud ?_;rintro (⟨i,q1,q2,q3⟩|⟨i,q1,q2,q3⟩)
    .exact q2 (bef i ((K.du i k t (K.lt i (by rw[I.split];simp[q1])) hk q3).2 ht))
    .exact K.disj I.split q1 (aw i t (K.lt i (by rw[I.split];simp[q1])) q3 ht)
   rcases nK pl ops k with af|af|af
   ·
    have:∃ PO lO st G,k∈PO/\SegI P pl ops O ro G0 aa w0 n Q Qp pre a w PO lO st G B:=by
     by_cases a5:k∈PO
     .exact ⟨PO,lO,ad,G,a5,I⟩
     .have an:k∈lO:=by
       have:=K.all k hk;rw[I.split]at this;exact(qM.1 this).resolve_left a5
      obtain⟨U,a0,rfl⟩:=List.append_of_mem an;have bg:=(K.ord (PO++U) a0 k (by rw[I.split];simp)).2.2 zOm;obtain⟨b2,G',I'⟩:=au (U++[k]) a0 zSp fun i l T=>by
       rcases qM.1 l with l|l
       .exact bg i (List.mem_append_right _ l) T
       .rw [qV]at l;subst l;exact absurd af T
      exact⟨_,_,b2,G',zSp,I'⟩
    clear I au;obtain⟨PO,lO,st,G,a5,I⟩:=this;cases hd:o.dst with
    |none=>have:=K.dn k hk (by rw[ae,hd]);omega
    |some d =>
    have aw:∀ i d,i<ops.size->ym ops i=some d->jX ops k d=true->i∈PO:=fun i d l br hr=>by
     obtain⟨s,t,hs⟩:=List.append_of_mem a5;have:=(K.ord s (t++lO) k (by rw[I.split,hs];simp)).2.1 i d l br hr;rw[hs];exact jt _ this
    obtain⟨b,hb,hT,hF⟩:=I.p k o d a5 b0 ho hd;have b3:yG ops (jN pl ops PO lO pre st) o=some b:=by
     rw[Uq fun t ht=>av PO lO G st I aw t (by simp only[jX,ho];exact ht)];exact hb
    have a7:=Ui I.rel b3;have ao:∀(G':Gh)(w':qd)(u:qf),Stp G (jN pl ops PO lO pre st).mu w G' (jN pl ops PO lO pre st).mu w'->VRel G' w'.heap (st.tm d) u->wpOpsIn (WF ro) 0 P ops QQ post (a.put o.dst u) w':=by
     intro G' w' u a1 hv;refine ih (pre++[k]) _ _ G' PO lO st B b1 ?_;have aq:=I.rel.put s0 a1 hv aj;refine⟨I.split,I.awp,fun i l T=>jt _ (I.s i l T),fun i l T=>?_,fun i o' d' l J=>I.p i o' d' l (fun hh=>J (jt _ hh)),fun i l J=>?_,fun i j l hj J ai=>?_,?_⟩
     .rcases qM.1 l with l|l
      .exact I.d i l T
      .rw [qV]at l;subst l;exact a5
     .have R:i≠k:=fun e=>K.disj I.split l (e ▸ a5)
      have a4:i∈pre:=by
       rcases qM.1 J with h|h
       .exact h
       .rw [qV]at h;exact absurd h R
      exact(I.al i l a4).step a1 fun d' a3=>ak i d' (K.lt i (by rw[I.split];simp[l])) R a3 u
     .have R:∀ i,i∈lO->i∈pre++[k]->i∈pre:=fun i l J=>by
       rcases qM.1 J with h|h
       .exact h
       .rw [qV]at h
        subst h;exact absurd a5 (K.disj I.split l)
      exact I.inj i j l hj (R i l J) (R j hj ai)
     .refine aq.weak rfl fun t=>?_
      by_cases hb:behind pl ops PO lO (pre++[k]) t
      .exact .inl (Yy hb)
      .right
       rw[ud hb];by_cases a6:o.dst=some t
       .rw [hd]at a6;cases a6
        simp[St.put,hd]
       .rw [vg a6,ud]
        rintro (⟨i,q1,q2,q3⟩|q)
        .refine hb (.inl ⟨i,q1,fun hh=>?_,q3⟩)
         rcases qM.1 hh with hh|hh
         .exact q2 hh
         .rw [qV]at hh;subst hh;exact a6 (by rw[<-ae];exact q3)
        .exact hb (.inr q)
    simp only[wpOpsIn,ho,a7];cases b with
    |false =>
     rw[if_neg zSp];exact⟨fun _ _=>trivial,ao G w qU (Stp.refl I.rel.stp.sim) (by rw[hF rfl];exact .sc _ rfl)⟩
    |true =>
    have bs:=hT rfl;rw[if_pos rfl];have bh:DS P pl o (jN pl ops PO lO pre st).ev (jN pl ops PO lO pre st).mu (st.tm d) (jN pl ops PO lO pre st).mu:=bs.congr fun x hx=>by
     cases x with
     |tmp t =>
      show st.tm t=(jN pl ops PO lO pre st).tm t;exact(av PO lO G st I aw t (Ur ho hx)).symm
     |const v=>rfl
     |global g=>rfl
     |func f=>rfl
    refine Uh I.rel.stp.sim I.rel.ev bh ?_ ?_
    .rintro v' cf G' w' u ⟨rfl,rfl⟩ a1 hv
     exact ao G' w' u a1 hv
    .intro _ _ _ _ _ hh;exact hh.elim
   ·
    have a5:k ∉ PO:=fun hh=>b0 (I.s k hh zOm)
    have an:k∈lO:=by
     have:=K.all k hk;rw[I.split]at this;exact(qM.1 this).resolve_left a5
    obtain⟨U,a0,rfl⟩:=List.append_of_mem an;have ag:=K.ord (PO++U) a0 k (by rw[I.split];simp);obtain⟨st,G,I⟩:=au U (k :: a0) rfl fun i l T=>ag.2.2 zOm i (List.mem_append_right _ l) T
    clear au;generalize cg:PO++U=a2 at *
    have hw:=I.awp;simp only[plan,af,awpT,ho]at hw;obtain⟨b,hb,hw,bt⟩:=hw;have b3:yG ops (jN pl ops a2 (k :: a0) pre st) o=some b:=by
     rw[Uq fun t ht=>av a2 (k :: a0) G st I ag.2.1 t (by simp only[jX,ho];exact ht)];exact hb
    have a7:=Ui I.rel b3;have ao:∀(v:AV)(m:Mu)(G':Gh)(w':qd)(u:qf),awpT P pl ops Q Qp (plan pl ops (a2++[k]) a0) (st.put o.dst v m)->(∀ i o' d',i∈a2->i ∉ pre->zX pl ops i=0->ops[i]?=some o'->o'.dst=some d'->DG P pl ops o' (st.put o.dst v m) d' m) ->
      Stp G st.mu w G' m w'->VRel G' w'.heap v u->wpOpsIn (WF ro) 0 P ops QQ post (a.put o.dst u) w':=by
     intro v m G' w' u b4 bu a1 hv;refine ih (pre++[k]) _ _ G' (a2++[k]) a0 (st.put o.dst v m) B b1 ?_;have aq:=I.rel.put s0 a1 hv aj;have b5:O=(a2++[k])++a0:=by rw[I.split];simp
     refine⟨b5,b4,fun i l T=>?_,fun i l T=>?_,fun i o' d' l J a8 a3=>?_,fun i l J=>?_,fun i j l hj J ai=>?_,?_⟩
     .rcases qM.1 l with l|l
      .exact jt _ (I.s i l T)
      .exact List.mem_append_right _ l
     .rcases qM.1 l with l|l
      .exact jt _ (I.d i l T)
      .exact List.mem_append_right _ l
     .have a4:i ∉ pre:=fun hh=>J (jt _ hh)
      have bi:i∈a2:=by
       rcases qM.1 l with l|l
       .exact l
       .exact absurd (List.mem_append_right _ l) J
      have T:zX pl ops i=0:=by
       by_cases hh:zX pl ops i=0
       .exact hh
       .exact absurd (I.s i bi hh) a4
      exact bu i o' d' bi a4 T a8 a3
     .have R:i≠k:=fun e=>by
       subst e;exact K.disj b5 l zSp
      have a4:i∈pre:=by
       rcases qM.1 J with h|h
       .exact h
       .rw [qV]at h;exact absurd h R
      exact(I.al i (q8 _ l) a4).step a1 fun d' a3=>ak i d' (K.lt i (by rw[I.split];simp[l])) R a3 u
     .have R:∀ i,i∈a0->i∈pre++[k]->i∈pre:=fun i l J=>by
       rcases qM.1 J with h|h
       .exact h
       .rw [qV]at h
        subst h;exact absurd (show i∈a2++[i] by simp) (K.disj b5 l)
      exact I.inj i j (q8 _ l) (q8 _ hj) (R i l J) (R j hj ai)
     .refine aq.weak rfl fun t=>?_
      by_cases hb:behind pl ops (a2++[k]) a0 (pre++[k]) t
      .exact .inl (Yy hb)
      .right
       rw[ud hb];by_cases a6:o.dst=some t
       .simp [St.put,a6]
       .rw [vg a6,vg a6,ud]
        rintro (⟨i,q1,q2,q3⟩|⟨i,q1,q2,q3⟩)
        .refine hb (.inl ⟨i,jt _ q1,fun hh=>?_,q3⟩)
         rcases qM.1 hh with hh|hh
         .exact q2 hh
         .rw [qV]at hh;subst hh;exact a6 (by rw[<-ae];exact q3)
        .rcases qy.1 q1 with rfl|q1
         .omega
         .exact hb (.inr ⟨i,q1,q2,q3⟩)
    simp only[wpOpsIn,ho,a7];cases b with
    |false =>
     rw[if_neg zSp];exact⟨fun _ _=>trivial,ao (.sc qU) st.mu G w qU (bt rfl) (fun i o' d' l J T a8 a3=>fT K I.split l a8 ho a3 (I.p i o' d' l J a8 a3)) (Stp.refl I.rel.stp.sim) (.sc _ rfl)⟩
    |true =>
    rw[if_pos rfl];have hw:qI P pl false o.dst o.op st.ev st.mu (fun v m=>uR P pl ops (if 1=0 then [] else pend pl ops a2 k) (st.put o.dst v m)/\awpT P pl ops Q Qp (plan pl ops (a2++[k]) a0) (st.put o.dst v m)) (fun v m=>True/\∀ tm,Qp v ⟨tm,m⟩):=hw rfl;have bv:=hw.congr (ev':=(jN pl ops a2 (k :: a0) pre st).ev) (fun x hx=>by
     cases x with
     |tmp t=>exact(av a2 (k :: a0) G st I ag.2.1 t (Ur ho hx)).symm
     |const v=>rfl
     |global g=>rfl
     |func f=>rfl)
    have cc:k∈k :: a0:=zg ..;refine Uh (mu:=(jN pl ops a2 (k :: a0) pre st).mu) I.rel.stp.sim I.rel.ev bv ?_ ?_
    .rintro v m G' w' u ⟨bj,b4⟩ a1 hv
     rw[if_neg zDe]at bj;refine ao v m G' w' u b4 (fun i o' d' l J T a8 a3=>?_) a1 hv;refine(fT K I.split l a8 ho a3 (I.p i o' d' l J a8 a3)).re (XB a8 T) fun hm hb=>?_
     refine XA bj (i:=i) (jH.2 ⟨l,?_⟩) a8 a3 hb;have b6:(ja ops k).testBit i=false:=by
      cases hq:(ja ops k).testBit i with
      |false=>rfl
      |true=>exact absurd (bef i hq) J
     simp[T,Xz,a8,hm,b6]
    .rintro v m G' w' u ⟨_,hp⟩ a1 hv
     refine bk v ⟨(jN pl ops a2 (k :: a0) pre st).tm,m⟩ a w' G' u (hp _) ?_ hv;exact I.rel.put (d:=none) s0 a1 (.any qU) rfl
   ·
    have a5:k ∉ PO:=fun hh=>b0 (I.s k hh zOm)
    have an:k∈lO:=by
     have:=K.all k hk;rw[I.split]at this;exact(qM.1 this).resolve_left a5
    obtain⟨ty,a9⟩:=qi5 ho af;obtain⟨z,hz⟩:=ay k o ty ho a9;cases hd:o.dst with
    |none=>have:=K.dn k hk (by rw[ae,hd]);omega
    |some d =>
    have a7:Region.wanted o (yielded ops a.tmps)=true:=by unfold Region.wanted;rw[K.guards k o ho (by simp[ZX,a9])]
    simp only[wpOpsIn,ho,a7,if_true];refine qi6 a9 hz fun zv bw=>?_
    subst bw;have a1:=fP I.rel.stp.sim (.cells zv.cells ty);have aq:=I.rel.put (v := .any) (u := .pointer (some ⟨w.heap.size,0,none⟩)) (d:=o.dst) s0 a1 (.any _) aj;refine ih (pre++[k]) _ _ G PO lO ad (fun i=>if i=k then w.heap.size else B i) b1 ?_;refine⟨I.split,I.awp,fun i l T=>jt _ (I.s i l T),fun i l T=>?_,fun i o' d' l J=>I.p i o' d' l (fun hh=>J (jt _ hh)),fun i l J=>?_,fun i j l hj J ai b7=>?_,?_⟩
    .rcases qM.1 l with l|l
     .exact I.d i l T
     .rw [qV]at l;subst l;exact absurd af T
    .by_cases R:i=k
     .subst R
      rw[if_pos rfl];refine⟨⟨o,ty,d,zv,ho,a9,hd,hz,?_,VV w _⟩,I.rel.stp.size,fun hl=>?_,fun l=>?_⟩
      .rw [hd]
       have ca:d<n:=by rw[hd]at aj;simpa[dOk] using aj
       have:d<a.tmps.size:=by rw[I.rel.size];exact ca
       simp[Act.put,zc,this]
      .have:=I.rel.stp.sim.livesize hl;omega
      .have:=I.rel.stp.sim.imm _ l;omega
     .rw [if_neg R]
      have a4:i∈pre:=by
       rcases qM.1 J with h|h
       .exact h
       .rw [qV]at h;exact absurd h R
      exact(I.al i l a4).step a1 fun d' a3=>ak i d' (K.lt i (by rw[I.split];simp[l])) R a3 _
    .have ah:∀ i,i∈pre++[k]->i≠k->i∈pre:=fun i J R=>by
      rcases qM.1 J with h|h
      .exact h
      .rw [qV]at h;exact absurd h R
     by_cases R:i=k
     .rw [if_pos R,if_neg (fun e=>b7 (R.trans e.symm))]
      have ar:j≠k:=fun e=>b7 (R.trans e.symm)
      have:=(I.al j hj (ah j ai ar)).lt;omega
     .rw [if_neg R]
      by_cases ar:j=k
      .rw [if_pos ar]
       have:=(I.al i l (ah i J R)).lt;omega
      .rw [if_neg ar]
       exact I.inj i j l hj (ah i J R) (ah j ai ar) b7
    .refine aq.weak rfl fun t=>?_
     by_cases hb:behind pl ops PO lO (pre++[k]) t
     .exact .inl (Yy hb)
     .right
      rw[ud hb];have a6:o.dst≠some t:=fun e=>hb (.inr ⟨k,an,af,by rw[ae];exact e⟩)
      rw[vg a6,ud];rintro (⟨i,q1,q2,q3⟩|q)
      .refine hb (.inl ⟨i,q1,fun hh=>?_,q3⟩)
       rcases qM.1 hh with hh|hh
       .exact q2 hh
       .rw [qV]at hh;subst hh;exact a6 (by rw[<-ae];exact q3)
      .exact hb (.inr q)
 refine key L [] a w G [] O st (fun _=>0) zSp ⟨rfl,h,fun i l=>absurd l qG,fun i l=>absurd l qG,fun i o d l=>absurd l qG,fun i _ l=>absurd l qG,fun i j _ _ l=>absurd l qG,?_⟩;refine r.weak rfl fun t=>?_
 grind [behind,Yy,ud]
def XC(P:qb)(pl:Pol)(ops:Array zK)(Q:St->Prop)(g:AV->St->Prop)(st:St):Prop:=nI P pl ops Q g st\/SegA P pl ops Q g st
theorem qi8{pl ro C i I n}(J:Sim C i I.heap)(j:(ops.toList.all fun o=>dOk n o.dst)=true)
  {Q} {R} {QQ} (T:∀ st a w G,Q st->Rel ro C i I n G st a w->QQ .normal a w)
  (p:∀ v st a w G u,R v st->Rel ro C i I n G st a w->VRel G w.heap v u->QQ (.panic [{ v:=u,recovered:=false }]) a w) {st} {a} {w} {G} (r:Rel ro C i I n G st a w)
  (h:XC P pl ops Q R st) (g) (t):wpOpsIn (WF ro) 0 P ops QQ (Region.schedule g ops t) a w:=by
 rcases h with h|h
 .exact qi1 J j T p r h g t
 .exact qi7 J j T p r h g t
end
end Go.Ev
namespace Go.Ev
open Go Go.RowKit
section
variable {c:Code}
inductive qX where
 |normal
 |exit (id:Nat)
 |ret
 |pan (v:AV)
def seqQ(n:St->Prop)(Q:qX->St->Prop):qX->St->Prop
 | .normal,T=>n T
 |e,T=>Q e T
def ue(id:Nat)(Q:qX->St->Prop):qX->St->Prop
 | .exit i,T=>if i=id then Q .normal T else Q (.exit i) T
 |e,T=>Q e T
def Qn(I:Nat->St->Prop)(n:Nat)(Q:qX->St->Prop):qX->St->Prop
 | .normal,T=>∃ m,m<n/\I m T
 |e,T=>Q e T
def Frz(st g:St):Prop:=∃ give,g.mu=cutM (fun i=>!give i) st.mu 0/\∀ i,Gv st.mu give (st.tm i) (g.tm i)
inductive Fz:St->St->Prop where
 |refl (st:St):Fz st st
 |step {a b c:St} (f:Frz a b) (k:Fz b c):Fz a c
def FzQ(Q:qX->St->Prop)(e:qX)(st:St):Prop:=∃ g,Frz st g/\(match e with | .pan _=>g=st|_=>True)/\Q e g
def fzQ:Bool->(qX->St->Prop)->qX->St->Prop
 |true,Q=>FzQ Q
 |false,Q=>Q
def Stb(I:Mu->Prop):Prop:=∀ C,I C->I (C++[.dead])
def Yld(P:qb)(i:Nat)(rows:List (List AV))(I:Nat->Mu->Prop)(g:Mu->Prop):Prop:=
 ∀ k x C,rows[k]?=some x->I k C->Zo P i x C fun b j=>(b=true/\I (k+1) j)\/(b=false/\g j)
def ji(P:qb)(f:qx)(caps:List AV)(rows:List (List AV)):Prop:=jh P f /\
 ∀(i:Nat)(I:Nat->Mu->Prop)(g:Mu->Prop),(∀ k,Stb (I k))->Stb g->Yld P i rows I g->∀ C,I 0 C ->
  qD P f (.yl i :: caps) C fun e j=>∃ r,e = .ret r/\(I rows.length j\/g j)
def IterX(P:qb)(f:qx)(caps:List AV)(rows:List (List AV)):Prop:=jh P f /\
 ∀(i:Nat)(I:Nat->Mu->Prop)(g:Mu->Prop),Yld P i rows I g->∀ C,I 0 C ->
  qD P f (.yl i :: caps) C fun e j=>∃ r,e = .ret r/\(I rows.length j\/g j)
def nL(P:qb)(f:qx)(caps:List AV)(rows:List (List AV))(I:Nat->Mu->Prop)(g:qX->Mu->Prop):Prop:=(ji P f caps rows/\(∀ k,Stb (I k))/\∀ e,Stb (g e))\/IterX P f caps rows
def uS(g:Nat->AV):List Tmp->List AV->(Nat->AV)
 |t :: R,x :: J=>uS (fun i=>if i=t then x else g i) R J
 |_,_=>g
def asQ(n:St->Prop):qX->St->Prop
 | .normal,T=>n T
 |_,_=>False
def rndQ(I:Nat->Mu->Prop)(g:qX->Mu->Prop)(k:Nat):qX->St->Prop
 | .normal,T=>I (k+1) T.mu
 | .pan _,_=>False
 |e,T=>g e T.mu
def awp(P:qb)(pl:Pol):Code->(qX->St->Prop)->St->Prop
 | .skip,Q,T=>Q .normal T
 | .label _,Q,T=>Q .normal T
 | .region _ l o,Q,T=>(o=false/\awpS P pl false l l.toList (Q .normal) (fun v T=>Q (.pan v) T) T)\/(o=true/\∃ j,Fz T j/\XC P pl l (Q .normal) (fun v T=>Q (.pan v) T) j)
 | .seq a b,Q,T=>awp P pl a (seqQ (awp P pl b Q) Q) T
 | .cond c a b,Q,T=>∃ t,T.ev c = .sc (.bool t)/\Br t (awp P pl a Q T) (awp P pl b Q T)
 | .block id i,Q,T=>awp P pl i (ue id Q) T
 | .loop i,Q,T=>∃(z:Bool) (I:Nat->St->Prop) (n:Nat) (j:St),Fz T j/\I n j/\∀ n T,I n T->awp P pl i (Qn I n (fzQ z Q)) T
 | .exit id,Q,T=>Q (.exit id) T
 | .ret,Q,T=>Q .ret T
 | .scope i,Q,T=>awp P pl i Q T
 | .rangeFunc g R r i,Q,T=>∃(z:Bool) (U:qx) (p:List AV) (rows:List (List AV)) (I:Nat->Mu->Prop) (J:qX->Mu->Prop),
   T.ev g = .fn (.func U) [] p/\nL P U p rows I J/\I 0 (T.mu++[.dead]) /\
   (∀ k x C,rows[k]?=some x->I k C->x.length=R.size/\awp P pl r (asQ (fun T=>awp P pl i (rndQ I J k) T)) ⟨uS T.tm R.toList x,C⟩) /\
   (∀ C,I rows.length C->fzQ z Q .normal ⟨T.tm,C⟩)/\(∀ e C,J e C->fzQ z Q e ⟨T.tm,C⟩)
 |_,_,_=>False
def noRF:Code->Bool
 | .seq a b=>noRF a&&noRF b
 | .cond _ a b=>noRF a&&noRF b
 | .block _ b=>noRF b
 | .loop b=>noRF b
 | .scope b=>noRF b
 | .rangeFunc .. => false
 |_=>true
def dOkC(n:Nat):Code->Bool
 | .region _ l _=>l.toList.all fun o=>dOk n o.dst
 | .seq a b=>dOkC n a&&dOkC n b
 | .cond _ a b=>dOkC n a&&dOkC n b
 | .block _ b=>dOkC n b
 | .loop b=>dOkC n b
 | .scope b=>dOkC n b
 | .rangeFunc _ i g b=>(i.toList.all fun t=>decide (t<n))&&dOkC n g&&dOkC n b&&noRF g&&noRF b
 |_=>true
def ERel(G:Gh)(w:qd):qX->Exit->Prop
 | .normal,.normal=>True
 | .exit i,.exit j=>i=j
 | .ret,.ret=>True
 | .pan x,.panic chain=>∃ v,chain=[{ v,recovered:=false }]/\VRel G w.heap x v
 |_,_=>False
def Fit(ro:Ro)(j:Gh)(g:Mu)(l:qd)(n:Nat)(Q:qX->St->Prop)(QQ:Exit->Act->qd->Prop):Prop:=
 ∀ i e T a w G,Q i T->Rel ro j g l n G T a w->ERel G w i e->QQ e a w
theorem Rel.frz{ro l g o n G st j a w}(C:Sim l g o.heap)(r:Rel ro l g o n G st a w)(f:Frz st j):∃ G',Rel ro l g o n G' j a w:=by
 obtain⟨give,t,I⟩:=f;refine⟨Go.Ev.frz G give st.mu,fun i=>(I i).sound r.stp.sim (r.tm i),?_,r.size,?_,fun p J=>(Zm r.stp.sim give).vrel r.stp.sim (r.kp p J)⟩
 .intro h
  have:=(r.df h).step (Zm r.stp.sim give);rw[t];exact this
 rw[t];exact r.stp.trans C (Zm r.stp.sim give)
theorem Rel.fz{ro j g l n G st i a w}(o:Sim j g l.heap)(r:Rel ro j g l n G st a w)(f:Fz st i):∃ G',Rel ro j g l n G' i a w:=by
 induction f generalizing G with
 |refl st=>exact⟨G,r⟩
 |step f k p =>
  obtain⟨C,t⟩:=r.frz o f;exact p t
theorem Fit.fz{ro t g C n Q QQ}(I:Sim t g C.heap)(h:Fit ro t g C n Q QQ)(z):Fit ro t g C n (fzQ z Q) QQ:=by
 cases z with
 |false=>exact h
 |true =>
  intro P e T a w G j r p;obtain⟨R,f,J,j⟩:=j;cases P with
  |pan v =>
   simp only at J;subst J;exact h _ e _ a w G j r p
  |normal =>
   obtain⟨l,o⟩:=r.frz I f;exact h _ e _ a w l j o (by cases e<;>exact p)
  |ret =>
   obtain⟨l,o⟩:=r.frz I f;exact h _ e _ a w l j o (by cases e<;>exact p)
  |exit i =>
   obtain⟨l,o⟩:=r.frz I f;exact h _ e _ a w l j o (by cases e<;>exact p)
section
variable {F:Fence} {rm:Nat} {P:qb} {b:Frame} {a:Act} {k:List Item} {cs:List Frame} {w:qd} {Q:Exit->Act->qd->Prop}
theorem Yz:step P (lone (b.atR a (.code (.scope c) :: k)) cs w) = .next (lone (b.atR a (.code c :: .inScope c :: k)) cs w):=
 step_lone_go (by simp[stepG,stepG.exec,Frame.atR])
theorem qi9:step P (lone (b.atR a (.inScope c :: k)) cs w) = .next (lone (b.atR a k) cs w):=
 step_lone_go (by simp[stepG,stepG.exec,Frame.atR])
theorem qjA(h:c.wpIn F rm P (Exit.noGoto Q) a w):(Code.scope c).wpIn F rm P Q a w:=by
 intro b k cs t C I;have o:(lone (b.atR a (.code (.scope c) :: k)) cs w).fenced P F:=fenced_calm C I rfl;obtain⟨e,i,j,p,g⟩:=h b (.inScope c :: k) cs t C I;cases e with
 |normal=>exact⟨.normal,i,j,p,.head o Yz (StepsIn.trans g (.one (fenced_calm C I rfl) qi9))⟩
 |exit id=>exact⟨.exit id,i,j,p,fun T J => .head o Yz (g.1 T (by simp[exitTo,J])),
   fun R J=>let ⟨r,U,h2⟩:=g.2 R (by simp[exitTo,J]);⟨r,U,.head o Yz h2⟩⟩
 |goto l=>exact p.elim
 |ret=>exact⟨_,i,j,p,.of_steps (.one o Yz) g⟩
 |panic ch=>exact⟨_,i,j,p,.of_steps (.one o Yz) g⟩
 |outgrown=>exact⟨_,i,j,p,.of_steps (.one o Yz) g⟩
end
end
section
variable {R:AEnd->Mu->Prop}{r:AV}{a:Act}{c:Code}{f:qx}{G:Gh}{args:List AV}{mu:Mu}{pl:Pol}{P:qb}{st:St}{w:qd}
def XD(P:qb)(pl:Pol)(n:Nat)(c:Code):Prop:=∀{ro:Ro}{i:Gh}{g:Mu}{j:qd}(_:Sim i g j.heap)(Q:qX->St->Prop)(l:Exit->Act->qd->Prop)(T:St)(a:Act)(w:qd)(G:Gh),
  Fit ro i g j n Q l->Rel ro i g j n G T a w->dOkC n c=true->((ro.rd=none/\ro.mks=true)\/noRF c=true)->awp P pl c Q T->c.wpIn (WF ro) 0 P l a w
def JV:qX->Option Code
 | .ret=>some .ret
 | .exit id=>some (.exit id)
 |_=>none
def JJ(n:Nat)(ps:Array Tmp)(j body:Code)(p:Nat->AV)(o:Nat)(I:Nat->Mu->Prop)(k:Nat)(M:Mu):Prop:=
 ∃ fn tmps d,M[o]?=some (.lp { state := .ready,pending:=none,fn,tmps,params:=ps,assign:=j,body,defers:=d } p)/\tmps.size=n/\I k (M.set o .dead)
def JX(ps:Array Tmp)(j body:Code)(p:Nat->AV)(o:Nat)(r:qX->Mu->Prop)(M:Mu):Prop:=
 ∃ fn tmps d e c,M[o]?=some (.lp { state := .done,pending:=some c,fn,tmps,params:=ps,assign:=j,body,defers:=d } p)/\JV e=some c/\r e (M.set o .dead)
theorem nM{h}:∀(ts:List Tmp)(xs j o)(g:Array qf),xs.length=ts.length->j.length=ts.length ->
  (∀(k) x,xs[k]?=some x->VRel G h x (j.getD k qU))->(∀ i,VRel G h (o i) (g.getD i qU))->(∀ t,t∈ts->t<g.size) ->
  (∀ i,VRel G h (uS o ts xs i) (((ts.zip j).foldl (fun g (x:Tmp×qf)=>g.setIfInBounds x.1 x.2) g).getD i qU))/\((ts.zip j).foldl (fun g (x:Tmp×qf)=>g.setIfInBounds x.1 x.2) g).size=g.size
 | [],xs,j,o,g,_,_,_,p,_=>by
  refine⟨?_,rfl⟩;cases xs<;>exact p
 |t :: ts,x :: xs,v :: j,o,g,r,l,C,p,I=>by
  have hv:VRel G h x v:=by simpa using C 0 x rfl
  obtain⟨J,P⟩:=nM ts xs j (fun i=>if i=t then x else o i) (g.setIfInBounds t v) (zUs r) (zUs l) (fun k y R=>by simpa using C (k+1) y (zUs R)) (fun i=>by
   by_cases T:i=t
   .simp_all
   .rw [if_neg T]
    have:(g.setIfInBounds t v).getD i qU=g.getD i qU:=by
     simp only[zc]
     grind
    rw[this];exact p i) (fun s U=>by simpa using I s (zP1 U))
  exact⟨J,zUs P⟩
 |_ :: _,[],_,_,_,r,_,_,_,_=>by simp at r
 |_ :: _,_ :: _,[],_,_,_,l,_,_,_=>by simp at l
theorem nN{n}{ps:Array Tmp}{C body rows I Ix tm R}
  (h1:XD P pl n C) (h2:XD P pl n body) (al:dOkC n C=true) (an:dOkC n body=true) (ao:noRF C=true) (aq:noRF body=true) (ar:∀ t,t∈ps.toList->t<n)
  (a3:∀ k x mu,rows[k]?=some x->I k mu->x.length=ps.size/\awp P pl C (asQ (fun st=>awp P pl body (rndQ I Ix k) st)) ⟨uS tm ps.toList x,mu⟩) :
  Yld P R rows (JJ n ps C body tm R I) (JX ps C body tm R Ix):=by
 rintro k x M hx ⟨fn,tmps,d,hM,af,hI⟩ G w vs s ra l a0 hb;obtain⟨o,ho,au⟩:=s.obj R _ l a0 hM zSp hb;obtain⟨rfl,aa⟩:=au;obtain⟨a8,ag⟩:=a3 k x _ hx hI;have ah:vs.size=ps.size:=by rw[ra.1,a8]
 refine⟨_,_,_,_,run_yield ho ah,?_⟩;refine roundIn_of_wpIn (F:=Fence.wide) trivial ?_;simp only;have av:(ps.zip vs).foldl (fun tmps (x:Tmp×qf)=>tmps.setIfInBounds x.1 x.2) tmps=(ps.toList.zip vs.toList).foldl (fun tmps (x:Tmp×qf)=>tmps.setIfInBounds x.1 x.2) tmps:=by
  rw[<-Array.foldl_toList,Array.toList_zip]
 have b4:=nM (G:=G) (h:=w.heap) ps.toList x vs.toList tm tmps (zUs a8) (zUs ah) (fun k y hy=>by simpa[zc,zS] using ra.2 k y hy) aa (fun t ht=>by rw[af];exact ar t ht);refine h1 (ro:=Ro.round l) (s.hid R) _ _ ⟨uS tm ps.toList x,M.set R .dead⟩ _ w G ?_ ⟨?_,fun h=>absurd h (by simp[Ro.round]),?_,Stp.refl (s.hid R),fun p hp=>by simp[Ro.round]at hp⟩ al (.inr ao) ag
 rotate_left
 .grind
 .grind
 intro ae e st1 a1 w1 G1 hq r1 he;cases ae with
 |normal =>
  cases e<;>simp only[ERel]at he
  obtain⟨aw,ax,T1⟩:=r1.stp.unhid s hM zSp hb;have ai:w1.heap[l]?=some (.loop { state := .ready,pending:=none,fn,tmps,params:=ps,assign:=C,body,defers:=d }):=by rw[ax];exact ho
  refine⟨_,run_beginRound ai rfl,?_⟩;simp only;have aj:R<st1.mu.length:=(qk.1 aw).1;have ab:G1.blk[R]?=some (l,a0):=r1.stp.le.blk _ _ hb;have ak:l<w1.heap.size:=(yK.1 ai).1;have W1:=sW (w:=w1) (w':=w1.putObj l (.loop { state := .busy,pending:=none,fn,tmps,params:=ps,assign:=C,body,defers:=d })) T1.sim R _
   (.lp { state := .busy,pending:=none,fn,tmps,params:=ps,assign:=C,body,defers:=d } tm) l a0 _ (qL aj) zSp zSp ab zSp (World.putObj_heap_same ak)
   (fun b ad=>wu ad) rfl rfl rfl ⟨rfl,fun i=>((aa i).mono r1.stp.le (r1.stp.ext (s.hid R)))⟩
  simp only[List.set_set]at W1;have a9:∀ c:Cell,(st1.mu.set R c).set R .dead=st1.mu:=by
   intro c;rw[List.set_set];apply jS
   grind
  have s1:=W1.sim.hid R;rw[a9]at s1;refine h2 (ro:=Ro.round l) s1 _ _ st1 a1 _ G1 ?_ ⟨fun i=>(r1.tm i).mono (.refl G1) (W1.ext T1.sim),fun h=>absurd h (by simp[Ro.round]),r1.size,Stp.refl s1,fun p hp=>by simp[Ro.round]at hp⟩ an (.inr aq) hq;intro ay e2 st2 a2 w2 G2 a4 r2 a5;have az:Stp G1 ((st1.mu.set R (.lp { state := .busy,pending:=none,fn,tmps,params:=ps,assign:=C,body,defers:=d } tm)).set R .dead) (w1.putObj l (.loop { state := .busy,pending:=none,fn,tmps,params:=ps,assign:=C,body,defers:=d })) G2 st2.mu w2:=by
   rw[a9];exact r2.stp
  obtain⟨b0,b1,T2⟩:=az.unhid W1.sim (qL aj) zSp ab;have a6:w2.heap[l]?=some (.loop { state := .busy,pending:=none,fn,tmps,params:=ps,assign:=C,body,defers:=d }):=by rw[b1];exact World.putObj_heap_same ak
  have a7:R<st2.mu.length:=(qk.1 b0).1;have b2:G2.blk[R]?=some (l,a0):=T2.le.blk _ _ ab;have b3:l<w2.heap.size:=(yK.1 a6).1;have T:Stp G M w G2 (st2.mu.set R (.lp { state := .busy,pending:=none,fn,tmps,params:=ps,assign:=C,body,defers:=d } tm)) w2:=(T1.trans s W1).trans s T2;have U:∀ c:Cell,(st2.mu.set R c).set R .dead=st2.mu:=by
   intro c;rw[List.set_set];apply jS
   grind
  have fin:∀(J:Option Code),Stp G M w G2 (st2.mu.set R (.lp { state:=if J.isNone then .ready else .done,pending:=J,fn,tmps,params:=ps,assign:=C,body,defers:=d } tm))
    (w2.putObj l (.loop { state:=if J.isNone then .ready else .done,pending:=J,fn,tmps,params:=ps,assign:=C,body,defers:=d })):=by
   intro J;have W2:=sW (w:=w2) (w':=w2.putObj l (.loop { state:=if J.isNone then .ready else .done,pending:=J,fn,tmps,params:=ps,assign:=C,body,defers:=d })) T2.sim R _
    (.lp { state:=if J.isNone then .ready else .done,pending:=J,fn,tmps,params:=ps,assign:=C,body,defers:=d } tm) l a0 _ (qL a7) zSp zSp b2 zSp (World.putObj_heap_same b3)
    (fun b ad=>wu ad) rfl rfl rfl ⟨rfl,fun i=>((aa i).mono T.le (T.ext s))⟩
   simp only[List.set_set]at W2;exact T.trans s W2
  cases ay with
  |normal =>
   cases e2<;>simp only[ERel]at a5
   refine⟨_,_,run_endRound none a6,true,G2,_,rfl,fin none,.inl ⟨rfl,fn,tmps,d,qL a7,af,?_⟩⟩;rw[U];exact a4
  |ret =>
   cases e2<;>simp only[ERel]at a5
   refine⟨_,_,run_endRound (some .ret) a6,false,G2,_,rfl,fin (some .ret),.inr ⟨rfl,fn,tmps,d,.ret,.ret,qL a7,rfl,?_⟩⟩;rw[U];exact a4
  |exit id =>
   cases e2<;>simp only[ERel]at a5
   subst a5;refine⟨_,_,run_endRound (some (.exit id)) a6,false,G2,_,rfl,fin (some (.exit id)),.inr ⟨rfl,fn,tmps,d,.exit id,.exit id,qL a7,rfl,?_⟩⟩;rw[U];exact a4
  |pan v=>exact a4.elim
 |ret=>exact hq.elim
 |exit id=>exact hq.elim
 |pan v=>exact hq.elim
theorem XF{n}:∀ c,XD P pl n c:=by
  intro c;induction c with
  |skip=>intro ro G0 U w0 s0 Q QQ T a w G hf r _ _ h;exact wpIn_skip (hf .normal .normal T a w G h r trivial)
  |label l=>intro ro G0 U w0 s0 Q QQ T a w G hf r _ _ h;exact wpIn_label (hf .normal .normal T a w G h r trivial)
  |exit id=>intro ro G0 U w0 s0 Q QQ T a w G hf r _ _ h;exact wpIn_exit (hf (.exit id) (.exit id) T a w G h r rfl)
  |ret=>intro ro G0 U w0 s0 Q QQ T a w G hf r _ _ h;exact wpIn_ret (hf .ret .ret T a w G h r trivial)
  |region id cx cv =>
    intro ro G0 U w0 s0 Q QQ T a w G hf r hd hn h;rcases h with ⟨rfl,h2⟩|⟨rfl,h2⟩
    · refine wpIn_region_list (Xq s0 (fun T a w G hq r=>hf .normal .normal T a w G hq r trivial) (fun v T a w G u hq r hv=>hf (.pan v) (.panic _) T a w G hq r ⟨u,rfl,hv⟩) _ T a w G r hd h2)
    · obtain⟨st1,ax,h2⟩:=h2
      obtain⟨G1,r1⟩:=r.fz s0 ax;refine wpIn_region_draw fun t=>?_
      exact qi8 s0 hd (fun T a w G hq r=>hf .normal .normal T a w G hq r trivial) (fun v T a w G u hq r hv=>hf (.pan v) (.panic _) T a w G hq r ⟨u,rfl,hv⟩) (r1.drew s0) h2 _ t
  |seq x y ay az =>
    intro ro G0 U w0 s0 Q QQ T a w G hf r hd hn h;simp only[dOkC,qH]at hd;simp only[noRF,qH]at hn;refine wpIn_seq (ay s0 _ _ T a w G ?_ r hd.1 (hn.imp id And.left) h);intro ae e R a' w' G' hq r' he;cases ae<;>cases e<;>simp only[ERel]at he
    · exact az s0 Q QQ R a' w' G' hf r' hd.2 (hn.imp id And.right) hq
    · exact hf (.exit _) (.exit _) R a' w' G' hq r' he
    · exact hf .ret .ret R a' w' G' hq r' trivial
    · exact hf (.pan _) (.panic _) R a' w' G' hq r' he
  |cond b0 x y ay az =>
    intro ro G0 U w0 s0 Q QQ T a w G hf r hd hn h;simp only[dOkC,qH]at hd;simp only[noRF,qH]at hn;obtain⟨t,ht,h1,h2⟩:=h;have rc:=r.ev b0;rw[ht]at rc;have ec:a.eval b0 = .bool t:=by generalize a.eval b0=v at rc;cases rc;rfl
    refine wpIn_cond_split ec (fun e=>ay s0 Q QQ T a w G hf r hd.1 (hn.imp id And.left) (h1 e)) (fun e=>az s0 Q QQ T a w G hf r hd.2 (hn.imp id And.right) (h2 e))
  |block id J ih =>
    intro ro G0 U w0 s0 Q QQ T a w G hf r hd hn h;refine wpIn_block (ih s0 _ _ T a w G ?_ r hd hn h);intro ae e R a' w' G' hq r' he;cases ae<;>cases e<;>simp only[ERel]at he
    · exact hf .normal .normal R a' w' G' hq r' trivial
    · subst he
      simp only[ue]at hq;simp only[Exit.inBlock];split at hq
      · rename_i hid;rw[if_pos hid];exact hf .normal .normal R a' w' G' hq r' trivial
      · rename_i hid;rw[if_neg hid];exact hf (.exit _) (.exit _) R a' w' G' hq r' rfl
    · exact hf .ret .ret R a' w' G' hq r' trivial
    · exact hf (.pan _) (.panic _) R a' w' G' hq r' he
  |loop J ih =>
    intro ro G0 U w0 s0 Q QQ T a w G hf r hd hn h;obtain⟨z,I,n0,st1,ax,hI,a1⟩:=h;obtain⟨G1,r1⟩:=r.fz s0 ax;have hf:=hf.fz s0 z;refine wpIn_loop_ghost (fun k a w=>∃ T G,I k T/\Rel ro G0 U w0 n G T a w) n0 ⟨st1,G1,hI,r1⟩ ?_;intro k a' w' ⟨R,G',bv,r'⟩;refine ih s0 _ _ R a' w' G' ?_ r' hd hn (a1 k R bv);intro ae e st2 a2 w2 G2 hq r2 he;cases ae<;>cases e<;>simp only[ERel]at he
    · obtain⟨m,hm,bw⟩:=hq
      exact⟨m,hm,st2,G2,bw,r2⟩
    · exact hf (.exit _) (.exit _) st2 a2 w2 G2 hq r2 he
    · exact hf .ret .ret st2 a2 w2 G2 hq r2 trivial
    · exact hf (.pan _) (.panic _) st2 a2 w2 G2 hq r2 he
  |scope J ih =>
    intro ro G0 U w0 s0 Q QQ T a w G hf r hd hn h;refine qjA (ih s0 Q _ T a w G ?_ r hd hn h);intro ae e R a' w' G' hq r' he;cases ae<;>cases e<;>simp only[ERel]at he
    · exact hf .normal .normal R a' w' G' hq r' trivial
    · exact hf (.exit _) (.exit _) R a' w' G' hq r' he
    · exact hf .ret .ret R a' w' G' hq r' trivial
    · exact hf (.pan _) (.panic _) R a' w' G' hq r' he
  |rangeFunc g ps a6 J b8 b9 =>
    intro ro G0 U w0 s0 Q QQ T a w G hf r hd hn h;have b1:ro.rd=none/\ro.mks=true:=by
      rcases hn with hn|hn
      · exact hn
      · simp[noRF]at hn
    simp only[dOkC,qH,zF,decide_eq_true_eq]at hd;obtain⟨⟨⟨⟨bb,bc⟩,be⟩,bg⟩,bh⟩:=hd;obtain⟨z,gf,av,rows,I,Ix,hg,af,h0,a1,bi,ah⟩:=h;have hf:=hf.fz s0 z;refine wpIn_rangeFunc fun fn _=>?_
    have eg:=r.ev g;rw[hg]at eg;generalize hq:a.eval g=gv at eg;cases eg with
    |fn _ _ _ ca ag cb hm hv hw =>
    have e0:ca=#[]:=Array.eq_empty_of_size_eq_zero (zUs cb);subst e0;have bj:jh P gf:=by rcases af with h|h;exact h.1.1;exact h.1
    generalize ai:(Loop.mk .ready none fn a.tmps ps a6 J w.heap.size)=C;have a3:∃ w1,w1=(w.alloc (.deferred (some []))).alloc (.loop C):=⟨_,rfl⟩;obtain⟨w1,a3⟩:=a3;have cw:w1.heap.size=w.heap.size+2:=by rw[a3];simp
    have aj:∀ b,b<w.heap.size->w1.heap[b]?=w.heap[b]?:=by
      intro b hb;rw[a3,Below.heap_alloc _ _ b zSo,Below.heap_alloc _ _ b hb]
    have cc:w1.heap[w.heap.size]?=some (.deferred (some [])):=by
      rw[a3,Below.heap_alloc _ _ _ zSp];exact World.alloc_heap_new w _
    have cd:w1.heap[w.heap.size+1]?=some (.loop C):=by
      rw[a3];have:=World.alloc_heap_new (w.alloc (.deferred (some []))) (.loop C);simpa using this
    have sG:=r.stp.sim;have a7:∀ b,Live G T.mu b->b<w.heap.size:=fun b hb=>sG.livesize hb
    have a4:∃ G1:Gh,G1=⟨G.imm,G.blk++[(w.heap.size+1,0)]⟩:=⟨_,rfl⟩;obtain⟨G1,a4⟩:=a4;have ak:G.le G1:=by
      rw[a4];exact⟨fun _ h=>h,fun i x hx=>by simp only;rw[qN (qk.1 hx).1];exact hx⟩
    have ab:Ext G w.heap w1.heap:=⟨zOm,fun b hb=>aj b (sG.imm b hb)⟩;have a8:G1.blk[T.mu.length]?=some (w.heap.size+1,0):=by rw[a4,<-sG.len];simp
    have a0:∀(j:Nat)(c:Cell)(bt:Nat×Nat),(T.mu++[Cell.lp C T.tm])[j]?=some c->G1.blk[j]?=some bt->(T.mu[j]?=some c/\G.blk[j]?=some bt)\/(j=T.mu.length/\c = .lp C T.tm/\bt=(w.heap.size+1,0)):=by
      intro j c bt hj a9;by_cases bk:j<T.mu.length
      · rw[qN bk]at hj
        rw[a4]at a9;simp only at a9;rw[qN (by rw[sG.len];exact bk)]at a9;exact .inl ⟨hj,a9⟩
      · have cf:=(qk.1 hj).1
        simp at cf;have:j=T.mu.length:=zOm;subst this;rw[a8]at a9;simp at hj a9;exact .inr ⟨rfl,hj.symm,a9.symm⟩
    have s1:Sim G1 (T.mu++[Cell.lp C T.tm]) w1.heap:=by
      refine⟨by rw[a4];simp[sG.len],fun b hb=>?_,?_,?_,?_,sG.tab.mono ak.imm ab.keep⟩
      · rw[a4]at hb;have:=sG.imm b hb;omega
      · intro j c b2 al g1 g2 g3
        rcases a0 j c _ g1 g3 with ⟨q1,q2⟩|⟨rfl,rfl,q⟩
        · obtain⟨o,k1,k2⟩:=sG.obj j c b2 al q1 g2 q2
          exact⟨o,by rw[aj _ (yK.1 k1).1];exact k1,k2.mono ak ab⟩
        · obtain⟨rfl,rfl⟩:=Prod.mk.inj q
          refine⟨_,cd,rfl,fun i=>?_⟩;rw[<-ai];exact(r.tm i).mono ak ab
      · intro j c b2 al g1 g2 g3
        rcases a0 j c _ g1 g3 with ⟨q1,q2⟩|⟨rfl,rfl,q⟩
        · have:=sG.live j c b2 al q1 g2 q2
          rw[a4];exact this
        · obtain⟨rfl,rfl⟩:=Prod.mk.inj q
          rw[a4];intro bm;have:=sG.imm _ bm;omega
      · intro i j ci cj b ti tj g1 g2 g3 g4 g5 g6
        rcases a0 i ci _ g1 g5 with ⟨q1,q2⟩|⟨rfl,rfl,q⟩<;>rcases a0 j cj _ g2 g6 with ⟨p1,p2⟩|⟨rfl,rfl,p⟩
        · exact sG.inj i j ci cj b ti tj q1 p1 g3 g4 q2 p2
        · obtain⟨rfl,rfl⟩:=Prod.mk.inj p
          have:=a7 _ ⟨i,ci,ti,q1,g3,q2⟩;omega
        · obtain⟨rfl,rfl⟩:=Prod.mk.inj q
          have:=a7 _ ⟨j,cj,tj,p1,g4,p2⟩;omega
        · rfl
    have ad:∀ b,Live G1 (T.mu++[Cell.lp C T.tm]) b->Live G T.mu b\/b=w.heap.size+1:=by
      rintro b ⟨j,c,al,g1,g2,g3⟩;rcases a0 j c _ g1 g3 with ⟨q1,q2⟩|⟨rfl,rfl,q⟩
      · exact .inl ⟨j,c,al,q1,g2,q2⟩
      · exact .inr (Prod.mk.inj q).1
    have t1:Stp G T.mu w G1 (T.mu++[Cell.lp C T.tm]) w1:=by
      refine⟨ak,s1,fun b hb _=>aj b hb,zOm,fun b hb=>?_,fun b hb=>?_,by rw[a3];rfl,by rw[a3];rfl,by rw[a3];rfl,by rw[a3];exact qr _⟩
      · rcases ad b hb with h|h
        · exact .inl h
        · exact .inr zOm
      · rw[a4]at hb;exact .inl hb
    have cg:Mk G1 (T.mu++[Cell.lp C T.tm]) w1.heap w.heap.size:=by
      refine⟨cc,fun hb=>?_,fun hb=>?_⟩
      · rcases ad _ hb with h|h
        · have:=a7 _ h;omega
        · omega
      · rw[a4]at hb;have:=sG.imm _ hb;omega
    have bn:JJ n ps a6 J T.tm T.mu.length I 0 (T.mu++[Cell.lp C T.tm]):=by
      refine⟨fn,a.tmps,w.heap.size,by rw[ai];simp,r.size,?_⟩;have:(T.mu++[Cell.lp C T.tm]).set T.mu.length .dead=T.mu++[.dead]:=zSp;rw[this];exact h0
    have bo:∀(X:Mu->Prop)(M:Mu)(c:Cell),Stb X->M[T.mu.length]?=some c->X (M.set T.mu.length .dead)->X ((M++[Cell.dead]).set T.mu.length Cell.dead):=by
      intro X M c hX hM hx;rw[List.set_append_left _ _ (qk.1 hM).1];exact hX _ hx
    have ch:qD P gf (.yl T.mu.length :: av) (T.mu++[Cell.lp C T.tm]) fun e bq=>∃ r,e = .ret r/\(JJ n ps a6 J T.tm T.mu.length I rows.length bq\/JX ps a6 J T.tm T.mu.length Ix bq):=by
      rcases af with ⟨af,hS,ck⟩|af
      rotate_left
      · exact af.2 T.mu.length _ _ (nN b8 b9 bc be bg bh bb a1) _ bn
      exact af.2 T.mu.length (JJ n ps a6 J T.tm T.mu.length I) (JX ps a6 J T.tm T.mu.length Ix)
       (fun k M ⟨f',t',d',q1,q2,q3⟩=>⟨f',t',d',by rw[qN (qk.1 q1).1];exact q1,q2,bo _ M _ (hS k) q1 q3⟩)
       (fun M ⟨f',t',d',e',c',q1,q2,q3⟩=>⟨f',t',d',e',c',by rw[qN (qk.1 q1).1];exact q1,q2,bo _ M _ (ck e') q1 q3⟩)
       (nN b8 b9 bc be bg bh bb a1) _ bn
    have b3:ya G1 w1.heap (.yl T.mu.length :: av) (#[Value.func (.yield (w.heap.size+1)) #[] #[]]++ag):=by
      refine⟨by simp[hm];omega,fun k x hx=>?_⟩;cases k with
      |zero =>
        simp at hx;subst hx;have e:(#[Value.func (.yield (w.heap.size+1)) #[] #[]]++ag).getD 0 qU=Value.func (.yield (w.heap.size+1)) #[] #[]:=by
          simp only[zc];rw[Array.getElem?_append_left zSp];simp
        rw[e];exact VRel.yl _ _ 0 a8
      |succ k =>
        have:=(hw k x (zUs hx)).mono ak ab;have e:(#[Value.func (.yield (w.heap.size+1)) #[] #[]]++ag).getD (k+1) qU=ag.getD k qU:=by
          simp only[zc];rw[Array.getElem?_append_right zSp];simp
        rw[e];exact this
    refine⟨w.heap.size+1,[mkOf w.heap.size],w1,⟨.fn (.func gf) ag,#[Value.func (.yield (w.heap.size+1)) #[] #[]]⟩,w1,gf,#[Value.func (.yield (w.heap.size+1)) #[] #[]]++ag,w1,?_,?_,fun _ _=>trivial,?_,fun h=>by simp[WF,Fence.wide]at h,?_⟩
    · rw[a3,<-ai,show (WF ro).round=none from b1.1];exact run_enterLoop_outer fn a.tmps ps a6 J
    · simp only[resolve,zN,hq,Deferred.ofValue]
      simp[Act.eval]
    · simp only[invoke]
      exact bj _ w1
    · have aq:=ch.2 G1 w1 _ s1 b3
      have:=(callsIn_wide (n:=0)).2 (aq.mono (R':=rangePost (WF ro) 0 P (w.heap.size+1) QQ { a with defers:=mkOf w.heap.size :: a.defers }) ?_)
      · exact this
      rintro e w3 ⟨G3,a5,t3,br⟩;have hR:(∃ v,e = .returned v)/\(JJ n ps a6 J T.tm T.mu.length I rows.length a5\/JX ps a6 J T.tm T.mu.length Ix a5):=by
        rcases br with ⟨rv,v,⟨cl,he,hR⟩,rfl,cy⟩|⟨rv,v,⟨cl,he,_⟩,_⟩
        · exact⟨⟨v,rfl⟩,hR⟩
        · exact absurd he zSp
      clear br;obtain⟨⟨v,rfl⟩,hR⟩:=hR;have tt:Stp G T.mu w G3 a5 w3:=t1.trans sG t3;have cm:Stp G0 U w0 G3 a5 w3:=r.stp.trans s0 tt;have b4:G3.blk[T.mu.length]?=some (w.heap.size+1,0):=t3.le.blk _ _ a8
      have fin:∀(rc:Loop)(e:qX)(ee:Exit),a5[T.mu.length]?=some (.lp rc T.tm)->fzQ z Q e ⟨T.tm,a5.set T.mu.length .dead⟩->(∀ G w,ERel G w e ee)->QQ ee { a with defers:=mkOf w.heap.size :: a.defers } (w3.putObj (w.heap.size+1) (.loop { rc with state := .exhausted })):=by
        intro rc e ee au cn cp;have cq:=t3.sim.hid_not au zSp b4;have bs:=t3.sim.live _ _ _ _ au zSp b4;have td:Stp G0 U w0 G3 (a5.set T.mu.length .dead) w3:=cm.trans s0 (Stp.drop t3.sim T.mu.length);have b5:w0.heap.size<=w.heap.size:=r.stp.size;have tp:Stp G0 U w0 G3 (a5.set T.mu.length .dead) (w3.putObj (w.heap.size+1) (.loop { rc with state := .exhausted })):=by
          refine⟨td.le,td.sim.putOther cq bs,fun b b6 hl=>?_,by simpa using td.size,td.live,td.inew,td.tape,td.os,td.output,td.drawn⟩;rw[wu zOm];exact td.keep b b6 hl
        have an:Ext G3 w3.heap (w3.putObj (w.heap.size+1) (.loop { rc with state := .exhausted })).heap:=
          ⟨zSp,fun b b6=>wu (fun (e:b=_)=>bs (e ▸ b6))⟩
        have bu:∀ D,Mk G1 (T.mu++[Cell.lp C T.tm]) w1.heap D->D≠w.heap.size+1->Mk G3 (a5.set T.mu.length .dead) (w3.putObj (w.heap.size+1) (.loop { rc with state := .exhausted })).heap D:=by
          intro D m cr;have m3:=m.step t3;exact⟨by rw[wu cr];exact m3.obj,fun h=>m3.nlive h.hid,m3.nimm⟩
        refine hf e ee ⟨T.tm,a5.set T.mu.length .dead⟩ _ _ G3 cn ⟨fun i=>?_,fun _=>?_,r.size,tp,fun p hp=>(tt.vrel sG (r.kp p hp)).mono (.refl G3) an⟩ (cp _ _)
        · exact(tt.vrel sG (r.tm i)).mono (.refl G3) an
        · obtain⟨Ds,⟨cs,_⟩,ct,b7⟩:=r.df b1.1
          have aw:∀ D,D∈Ds->D<w.heap.size:=fun D hD=>(yK.1 (b7 D hD).2.obj).1
          refine⟨w.heap.size :: Ds,⟨zP1 cs,fun h=>by rw[b1.2]at h;cases h⟩,vP.2 ⟨fun h=>absurd (aw _ h) zOm,ct⟩,fun D hD=>?_⟩;rcases qy.1 hD with rfl|hD
          · exact⟨b5,bu _ cg zOm⟩
          · exact⟨(b7 D hD).1,bu _ ((b7 D hD).2.step t1) (zW1 (aw D hD))⟩
      have ao:∀(rc:Loop),a5[T.mu.length]?=some (.lp rc T.tm)->w3.heap[w.heap.size+1]?=some (.loop rc):=by
        intro rc au;obtain⟨o,ho,cu⟩:=t3.sim.obj _ _ _ _ au zSp b4;obtain⟨rfl,_⟩:=cu;exact ho
      rcases hR with ⟨f',t',d',q1,q2,q3⟩|⟨f',t',d',e',c',q1,q2,q3⟩
      · refine⟨_,_,run_endLoop (ao _ q1) zSp,?_⟩
        exact fin _ .normal .normal q1 (bi _ q3) (fun _ _=>trivial)
      · refine⟨_,_,run_endLoop (ao _ q1) zSp,?_⟩
        cases e' with
        |ret =>
          simp only[JV,qv]at q2;subst q2;exact wpIn_ret (fin _ .ret .ret q1 (ah _ _ q3) (fun _ _=>trivial))
        |exit id =>
          simp only[JV,qv]at q2;subst q2;exact wpIn_exit (fin _ (.exit id) (.exit id) q1 (ah _ _ q3) (fun _ _=>rfl))
        |normal=>simp[JV]at q2
        |pan v=>simp[JV]at q2
  |goto l=>intro ro G0 U w0 s0 Q QQ T a w G hf r hd hn h;exact h.elim
  |refuse cz=>intro ro G0 U w0 s0 Q QQ T a w G hf r hd hn h;exact h.elim
def resV(P:qb)(st:St):ResultVar->Option AV
 | .tmp t=>some (st.tm t)
 | .cell a t=>Qf P st.mu t (st.tm a)
def resL(P:qb)(st:St):List ResultVar->Option (List AV)
 | []=>some []
 |r :: g=>match resV P st r,resL P st g with|some x,some J=>some (x :: J)|_,_=>none
def vh(P:qb)(st:St):List ResultVar->Option AV
 | [r]=>resV P st r
 |g=>(resL P st g).map .tup
def JW(g:Array qf):ResultVar->Sem qf
 | .tmp t=>pure (g.getD t qU)
 | .cell a t=>do loadVar t (<-asAddr (g.getD a qU))
theorem nO{ro i g j n}(r:Rel ro i g j n G st a w){x z}(h:resV P st x=some z) :
  ∃ u,(JW a.tmps x).run P w = .ok u w/\VRel G w.heap z u:=by
 cases x with
 |tmp t=>simp only[resV,qv]at h;subst h;exact⟨_,rfl,r.tm t⟩
 |cell l t =>
  obtain⟨b,u,o,p,C⟩:=pS (P:=P) r.stp.sim (r.tm l) h
  grind [JW,asAddr,qS,zN,qW]
theorem qjB{ro o i p n}(r:Rel ro o i p n G st a w):∀ l zs,resL P st l=some zs ->
  ∃ g,(l.mapM (JW a.tmps)).run P w = .ok g w/\g.length=zs.length/\g.length=l.length/\∀(k:Nat) z,zs[k]?=some z->∃ u,g[k]?=some u/\VRel G w.heap z u:=by
 intro l;induction l with
 |nil=>intro zs h;simp only[resL,qv]at h;simp_all
 |cons x l t =>
  intro zs h;simp only[resL]at h;split at h
  .rename_i z j C I
   simp only[qv]at h;subst h;obtain⟨u,g1,U⟩:=nO r C;obtain⟨g,J,R,T,k4⟩:=t j I;refine⟨u :: g,by simp[List.mapM_cons,g1,J],zP1 R,zP1 T,fun k z' hz=>?_⟩
   grind
  grind
theorem JY{fn ro C j I n}(r:Rel ro C j I n G st a w){z}(h:vh P st fn.results.toList=some z) :
  ∃ u,(results fn a.tmps).run P w = .ok u w/\VRel G w.heap z u:=by
 have i:∀ g:List qf,(fn.results.toList.mapM (JW a.tmps)).run P w = .ok g w->(results fn a.tmps).run P w = .ok (if h:g.toArray.size=1 then g.toArray[0] else .tuple g.toArray) w:=by
  intro g l;have e:results fn a.tmps=(do let o <-fn.results.mapM (JW a.tmps);pure (if h:o.size=1 then o[0] else .tuple o)):=rfl;rw[e];simp only[Array.mapM_eq_mapM_toList,qS,Sem.run_map,l,qW,zN]
 unfold vh at h;split at h
 .rename_i x hx
  obtain⟨u,h1,h2⟩:=nO r h;simp_all
 .rename_i rs J
  cases p:resL P st fn.results.toList with
  |none=>simp[p]at h
  |some zs =>
   simp only[p,zq,qv]at h;subst h;obtain⟨g,R,T,k3,U⟩:=qjB r _ _ p;have t:g.toArray.size≠1:=by
    grind [List.size_toArray,List.length_eq_one_iff]
   refine⟨_,i g R,?_⟩;rw[dif_neg t];refine .tup _ _ (zP1 T) (fun k z hz=>?_);obtain⟨u,hu,hv⟩:=U k z hz;have:g.toArray.getD k qU=u:=by simp[zc,hu]
   rw[this];exact hv
def st0(args:List AV)(mu:Mu):St:=⟨fun i=>(args[i]?).getD (.sc qU),mu⟩
def Qo(P:qb)(g:List ResultVar)(R:AEnd->Mu->Prop):qX->St->Prop
 | .normal,T | .ret,T=>OptK (vh P T g) fun r=>R (.ret r) T.mu
 | .pan v,T=>R (.pan v) T.mu
 | .exit _,_=>False
theorem Rel.left{ro}(o:ro.rd=none){C j I n G st a w}(r:Rel ro C j I n G st a w):∃(g:List Nat),a.defers=g.map mkOf++ro.dl/\g.Nodup/\(∀ D,D∈g->w.heap[D]?=some (.deferred (some []))) /\
  Rel ro C j I n G st { a with defers:=ro.dl } (wB g w)/\∀ x v,VRel G w.heap x v->VRel G (wB g w).heap x v:=by
 obtain⟨g,⟨R,_⟩,J,P⟩:=r.df o;obtain⟨T,t⟩:=nu g w J P r.stp;exact⟨g,R,J,fun D U=>(P D U).2.obj,⟨fun i=>(r.tm i).mono (.refl G) t,fun _=>Dfs.nil _ _ _ _ _ _,r.size,T,fun p hp=>(r.kp p hp).mono (.refl G) t⟩,fun x v h=>h.mono (.refl G) t⟩
theorem fN{ro}{fn:Func}{g}(s:Sim G mu w.heap)(l:ya G w.heap args g)(J:args.length<=fn.ntmps)(o:ro.dl=[]:=by rfl)(r:ro.kp=[]:=by rfl) :
  Rel ro G mu w fn.ntmps G (st0 args mu) { tmps:=g++Array.replicate (fn.ntmps-g.size) qU,defers:=[] } w:=by
 have P:g.size<=fn.ntmps:=by rw[l.1];exact J
 refine⟨fun i=>?_,fun _=>⟨[],⟨zP1 o,fun _=>rfl⟩,List.nodup_nil,zSp⟩,zSo,Stp.refl s,fun p C=>by rw[r]at C;simp at C⟩;simp only[st0];by_cases R:i<args.length
 .have I:args[i]?=some args[i]:=by simp[R]
  have e:(g++Array.replicate (fn.ntmps-g.size) qU).getD i qU=g.getD i qU:=by
   simp only[zc]
   grind
  rw[I,e];exact l.2 i _ I
 .rw [List.getElem?_eq_none zOm]
  have e:(g++Array.replicate (fn.ntmps-g.size) qU).getD i qU=qU:=by
   simp only[zc];rw[Array.getElem?_append_right (by rw[l.1];omega),Array.getElem?_replicate];split<;>rfl
  rw[e];exact .sc _ rfl
theorem qD.of_awp{fn}(g:jh P f)(hf:P.funcs[f]?=some fn)(hb:fn.body=some c)
  (hn:args.length<=fn.ntmps) (hd:dOkC fn.ntmps c=true) (h:awp P pl c (Qo P fn.results.toList R) (st0 args mu)):qD P f args mu R:=by
 refine⟨g,fun G w vs s ra=>?_⟩;refine(callsIn_wide (n:=0)).1 (callsIn_of_wp_marks hf hb trivial ?_);refine XF (n:=fn.ntmps) c (ro:=Ro.fn) s _ _ (st0 args mu) _ w G ?_ ?_ hd (.inl ⟨rfl,rfl⟩) h
 .intro ae e T a l o j r U
  obtain⟨Ds,g1,g2,g3,i,p⟩:=r.left rfl;have key:∀(u:FrameMode)(R:Ending->qd->Prop),u ≠ .run->LeavesIn Fence.wide 0 P fn a.tmps R [] u (wB Ds l)->LeavesInM Fence.wide 0 P fn a.tmps R a.defers u l:=by
   intro u R hu hl;rw[g1];exact Xp hu Ds l g2 g3 hl
  cases ae<;>cases e<;>simp only[ERel]at U
  .obtain ⟨z,t,C⟩:=j
   obtain⟨u,I,J⟩:=JY i t;exact key .returning _ zSp ⟨u,I,o,T.mu,i.stp,.inl ⟨z,u,C,rfl,J⟩⟩
  .exact j.elim
  .obtain ⟨z,t,C⟩:=j
   obtain⟨u,I,J⟩:=JY i t;exact key .returning _ zSp ⟨u,I,o,T.mu,i.stp,.inl ⟨z,u,C,rfl,J⟩⟩
  .obtain ⟨v,rfl,hv⟩:=U
   exact key (.panicking _) _ zSp ⟨o,T.mu,i.stp,.inr ⟨_,v,j,rfl,p _ _ hv⟩⟩
 .exact fN s ra hn
theorem Sim.empty{g h}(l:∀ b,g b->b<h.size)(o:ZO g h):Sim ⟨g,[]⟩ [] h:=
 ⟨rfl,l,fun i c b t h=>by simp at h,fun i c b t h=>by simp at h,fun i j ci p b t r h=>by simp at h,o⟩
theorem qi.of_sound(h:qD P f args [] fun e mu'=>∃ p,e = .ret p/\Rd mu' p r):qi P f args r:=by
 obtain⟨l,h⟩:=h;refine⟨l,fun o w U hi ra=>?_⟩;refine(h ⟨o,[]⟩ w U hi ra).mono fun e w' ⟨J,mu',T,hR⟩=>?_
 have g:∀ b,¬Live ⟨o,[]⟩ [] b:=fun b ⟨i,c,t,hc,_⟩=>by simp at hc
 rcases hR with ⟨p,v,⟨C,R,I⟩,rfl,hv⟩|⟨p,v,⟨C,R,_⟩,_⟩
 .cases R
  refine⟨fun b=>J.imm b\/Live J mu' b,v,rfl,fun b j => .inl (T.le.imm b j),fun b j=>?_,⟨⟨T.os,T.tape,T.output,T.size,fun k hk=>T.keep k hk (g k)⟩,T.drawn⟩,I.sound T.sim hv⟩;rcases j with j|j
  .refine ⟨T.sim.imm b j,?_⟩
   rcases T.inew b j with h|h|h
   .exact .inl h
   .exact absurd h (g b)
   .exact .inr h
  .refine ⟨T.sim.livesize j,?_⟩
   rcases T.live b j with h|h
   .exact absurd h (g b)
   .exact .inr h
 grind
theorem qSW{fn}(g:jh P f)(hf:P.funcs[f]?=some fn)(i:fn.body=some c)(pl)(h:awp P pl c (Qo P fn.results.toList R) (st0 args mu))(j:Nat.ble args.length fn.ntmps=true:=by kernel_rfl)(l:dOkC fn.ntmps c=true:=by kernel_rfl):qD P f args mu R:=qD.of_awp g hf i (ur j) l h
theorem qSQ{fn}(g:jh P f)(hf:P.funcs[f]?=some fn)(j:fn.body=some c)(pl)(h:awp P pl c (Qo P fn.results.toList fun e mu'=>∃ i,e = .ret i/\Rd mu' i r) (st0 args []))(l:Nat.ble args.length fn.ntmps=true:=by kernel_rfl)(o:dOkC fn.ntmps c=true:=by kernel_rfl):qi P f args r:=qi.of_sound (qSW g hf j pl h l o)
theorem qSV{fn}(g:jh P f)(hf:P.funcs[f]?=some fn)(j:fn.body=some c)(h:awp P {} c (Qo P fn.results.toList fun e mu'=>∃ i,e = .ret i/\Rd mu' i r) (st0 args []))(l:Nat.ble args.length fn.ntmps=true:=by kernel_rfl)(o:dOkC fn.ntmps c=true:=by kernel_rfl):qi P f args r:=qi.of_sound (qSW g hf j {} h l o)
theorem qSU{fn Q}(g:jh P f)(hf:P.funcs[f]?=some fn)(j:fn.body=some c)(k:Q)(e:awp P {} c (Qo P fn.results.toList fun e mu'=>∃ i,e = .ret i/\Rd mu' i r) (st0 args [])=Q:=by simp[go_sem];rfl)(l:Nat.ble args.length fn.ntmps=true:=by kernel_rfl)(o:dOkC fn.ntmps c=true:=by kernel_rfl):qi P f args r:=qSV g hf j (e.mpr k) l o
def RdN(mu:Mu)(x y:AV):Prop:=∀(G:Gh)(h:Array Obj)(v:qf),Sim G mu h->VRel G h x v->VRel ⟨Live G mu,[]⟩ h y v
theorem RdN.sl{b sz off len cells ys}(t:mu[b]?=some (.arr cells))(hl:off+len*sz<=cells.length)(J:ys.length=len)(C:yR sz ys)
  (hf:∀(k:Nat) y,ys.flatten[k]?=some y->FL y) (h:∀(k) x y,cells[off+k]?=some x->ys.flatten[k]?=some y->x=y):RdN mu (.sl b sz off len) (.lst false ys):=by
 intro G hp v s r;subst J;cases r with
 |sl _ _ _ _ i j cap I ht l =>
 obtain⟨arr,e,P,h2,h3,R⟩:=s.arr b cells i j t I;by_cases T:ys=[]
 .subst T;exact .emp false _ cap zSp
 .have U:=yQ C
  have g:∀(k:Nat) y,ys.flatten[k]?=some y->∃ x,cells[off+k]?=some x:=by
   grind
  refine .lst false ys sz ⟨i,off,none⟩ cap arr e (0,0) (fun k=>arr.getD (off+k) qU) P rfl l zSp ⟨b,_,j,t,zSp,I⟩ C ?_ ?_
  .intro k y o
   obtain⟨x,p⟩:=g k y o;have:off+k<arr.size:=by grind
   simp_all
  .intro k y o
   obtain⟨x,p⟩:=g k y o;have:=h k x y p o;subst this;exact hf k x o _ _ _ _ _ (R _ x p).2
end
end Go.Ev
namespace Go.Ev
open Go Go.RowKit
section
variable {g:AV->St->Prop}{body:Code}{l:List zK}
theorem eqS{I}{a b:I}(h:a=b):a=b:=h
abbrev aI(n:Int):AV := .sc (.int .i64 n)
abbrev aB(b:Bool):AV := .sc (.bool b)
def panQ(Q:qX->St->Prop):AV->St->Prop:=fun v T=>Q (.pan v) T
def retK(R:AEnd->Mu->Prop)(m:Mu):AV->Prop:=fun r=>R (.ret r) m
def qj(P:qb)(pl:Pol)(l:List zK)(Q:St->Prop)(i:AV->St->Prop)(st:St):Prop:=∃ g,Fz st g/\XC P pl l.toArray Q i g
theorem cJ{P pl Q st}(h:JS pl l.toArray=true)(k:awpS P pl true l.toArray l Q g st):qj P pl l Q g st:=⟨st,.refl st,.inl (.inl ⟨h,k⟩)⟩
theorem fM{P pl Q st R}(k:R)(h:JS pl l.toArray=true:=by kernel_rfl)(e:awpS P pl true l.toArray l Q g st=R:=by simp[go_sem];rfl):qj P pl l Q g st:=cJ h (e.mpr k)
theorem qj.move{P pl Q st}(a d)(h:Uj pl l.toArray a (a+d)=true)(i:(Nat.blt 0 d&&Nat.blt (a+d) l.length)=true)(k:awpS P pl true l.toArray l Q g st)(j:awpS P pl true l.toArray (jW a d l) Q g st):qj P pl l Q g st:=by
 rw[qH]at i;exact⟨st,.refl st,.inl (.inr (.inr ⟨a,d,h,ur i.1,ur i.2,k,j⟩))⟩
theorem qj.tail{P pl Q st}(n)(h:Xx pl l.toArray n=true)(k:awpS P pl true l.toArray (l.take n) (fun st=>awpS P pl false l.toArray (l.drop n) Q g st) g st):qj P pl l Q g st:=
 ⟨st,.refl st,.inl (.inr (.inl ⟨n,h,k⟩))⟩
@[go_sem ↓] theorem sameK_eq(st d mu v m):ZW st d mu v m=(v=st.tm d/\m=mu):=eqS rfl
theorem qj.fz{P pl Q st}(h:FzQ (fun _ st=>qj P pl l Q g st) (.exit 0) st):qj P pl l Q g st:=by
 obtain⟨i,f,_,st2,f2,j⟩:=h;exact⟨st2,.step f f2,j⟩
def panT(g:AV->St->Prop):AV->Mu->Prop:=fun v m=>∀ i,g v ⟨i,m⟩
@[go_sem ↓] theorem panT_eq(g v m):panT g v m=∀ i,g v ⟨i,m⟩:=eqS rfl
theorem fD{P pl Q st}(O T)(h:Up pl l.toArray O=true)(i:plan pl l.toArray [] O=T)(j:Qm P l.toArray T)(k:awpT P pl l.toArray Q g T st):qj P pl l Q g st:=by
 subst i;exact⟨st,.refl st,.inr ⟨O,h,j,k⟩⟩
def newO(P:qb):Nat->Option zK->Prop
 | 2,some o=>(match o.op with | .alloc e=>OptK (qB P e) fun z=>z.cells.all AV.one=true|_=>False)
 |_,_=>True
@[go_sem ↓] theorem newOk_nil(P ops):Qm P ops []=True:=eqS rfl
@[go_sem ↓] theorem quU(P)(l:List zK)(j k r T):Qm P l.toArray ((j,k,r) :: T)=(newO P k l[j]?/\Qm P l.toArray T):=by
 show ((match k,l.toArray[j]? with|2,some o=>(match o.op with | .alloc e=>OptK (qB P e) fun z=>z.cells.all AV.one=true|_=>False)|_,_=>True)/\Qm P l.toArray T)=_;rw[wt];congr 1
@[go_sem ↓] theorem newO_0:(∀ P o,newO P 0 o=True)/\(∀ P o,newO P 1 o=True):=by and_intros<;>intros<;>exact eqS rfl
@[go_sem ↓] theorem newO_2(P i e ty pos after g):newO P 2 (some ⟨i,.alloc e,ty,pos,after,g⟩)=OptK (qB P e) (fun z=>z.cells.all AV.one=true):=eqS rfl
def segK(P:qb)(pl:Pol)(l:List zK)(Q:St->Prop)(i:AV->St->Prop)(r:List Nat)(T:List (Nat×Nat×List Nat))(g:Option Tmp)(st:St):AV->Mu->Prop:=fun v m=>uR P pl l.toArray r (st.put g v m)/\awpT P pl l.toArray Q i T (st.put g v m)
def segP(g:AV->St->Prop)(k:Nat):AV->Mu->Prop:=fun v m=>k=1/\∀ i,g v ⟨i,m⟩
def segO(P:qb)(pl:Pol)(l:List zK)(Q:St->Prop)(g:AV->St->Prop)(k:Nat)(r:List Nat)(T:List (Nat×Nat×List Nat))(st:St):Option zK->Prop
 |none=>False
 |some o=>OptK (yG l.toArray st o) fun b=>Br b (qI P pl (k != 1) o.dst o.op st.ev st.mu (segK P pl l Q g r T o.dst st) (segP g k)) (awpT P pl l.toArray Q g T (st.put o.dst (.sc qU) st.mu))
@[go_sem ↓] theorem awpT_nil(P pl ops Q g st):awpT P pl ops Q g [] st=Q st:=eqS rfl
@[go_sem ↓] theorem awpT_cons(P pl l Q g j k r T st):awpT P pl l.toArray Q g ((j,k,r) :: T) st=segO P pl l Q g k r T st l[j]?:=by
 show (match l.toArray[j]? with|none=>False|some o=>OptK (yG l.toArray st o) fun b=>Br b (qI P pl (k != 1) o.dst o.op st.ev st.mu (fun v m=>uR P pl l.toArray r (st.put o.dst v m)/\awpT P pl l.toArray Q g T (st.put o.dst v m)) (fun v m=>k=1/\∀ i,g v ⟨i,m⟩)) (awpT P pl l.toArray Q g T (st.put o.dst (.sc qU) st.mu)))=_;rw[wt];cases l[j]?<;>rfl
@[go_sem ↓] theorem segO_0(P pl l Q i r T st g op ty pos after) :
  segO P pl l Q i 0 r T st (some ⟨g,op,ty,pos,after,none⟩)=qI P pl true g op st.ev st.mu (segK P pl l Q i r T g st) noK:=by
 have:segP i 0=noK:=by funext v m;simp[segP,noK]
 show OptK (some true) (fun b=>Br b (qI P pl true g op st.ev st.mu (segK P pl l Q i r T g st) (segP i 0)) _)=_;rw[this];simp[OptK,Br]
@[go_sem ↓] theorem segO_1(P pl l Q i r T st g op ty pos after) :
  segO P pl l Q i 1 r T st (some ⟨g,op,ty,pos,after,none⟩)=qI P pl false g op st.ev st.mu (segK P pl l Q i r T g st) (panT i):=by
 have:segP i 1=panT i:=by funext v m;simp[segP,panT]
 show OptK (some true) (fun b=>Br b (qI P pl false g op st.ev st.mu (segK P pl l Q i r T g st) (segP i 1)) _)=_;rw[this];simp[OptK,Br]
@[go_sem ↓] theorem segO_2(P pl l Q i r T st g op ty pos after) :
  segO P pl l Q i 2 r T st (some ⟨g,op,ty,pos,after,none⟩)=qI P pl true g op st.ev st.mu (segK P pl l Q i r T g st) noK:=by
 have:segP i 2=noK:=by funext v m;simp[segP,noK]
 show OptK (some true) (fun b=>Br b (qI P pl true g op st.ev st.mu (segK P pl l Q i r T g st) (segP i 2)) _)=_;rw[this];simp[OptK,Br]
@[go_sem ↓] theorem segK_eq(P pl l Q i r T g st v m):segK P pl l Q i r T g st v m=(uR P pl l.toArray r (st.put g v m)/\awpT P pl l.toArray Q i T (st.put g v m)):=eqS rfl
@[go_sem ↓] theorem quV(P pl ops st):uR P pl ops [] st=True:=eqS rfl
def Us(P:qb)(pl:Pol)(l:List zK)(st:St):Option zK->Prop
 |some o=>OptK (yG l.toArray st o) fun b=>Br b (JU P pl o st) True
 |none=>True
@[go_sem ↓] theorem quW(P pl l p r st):uR P pl l.toArray (p :: r) st=(Us P pl l st l[p]?/\uR P pl l.toArray r st):=by
 show ((match l.toArray[p]? with|some o=>OptK (yG l.toArray st o) (fun b=>Br b (JU P pl o st) True)|none=>True)/\uR P pl l.toArray r st)=_;rw[wt];cases l[p]?<;>rfl
@[go_sem ↓] theorem quX(P pl l st d op ty pos after):Us P pl l st (some ⟨some d,op,ty,pos,after,none⟩)=qI P pl true (some d) op st.ev st.mu (ZW st d st.mu) noK:=by
 show OptK (some true) (fun b=>Br b (qI P pl true (some d) op st.ev st.mu (ZW st d st.mu) noK) True)=_;simp[OptK,Br]
def qm(P:qb)(pl:Pol)(body:Code)(Q:qX->St->Prop)(st:St):Prop:=∃(z:Bool) (I:Nat->St->Prop) (n:Nat) (g:St),Fz st g/\I n g/\∀ n st,I n st->awp P pl body (Qn I n (fzQ z Q)) st
theorem cL{P pl Q st}(I n)(h:I n st)(k:∀ n st,I n st->awp P pl body (Qn I n Q) st):qm P pl body Q st:=⟨false,I,n,st,.refl st,h,k⟩
theorem fG{P pl Q st}(I n)(h:I n st)(k:∀ n st,I n st->awp P pl body (Qn I n (FzQ Q)) st):qm P pl body Q st:=⟨true,I,n,st,.refl st,h,k⟩
theorem qm.fz{P pl Q st}(h:FzQ (fun _ st=>qm P pl body Q st) (.exit 0) st):qm P pl body Q st:=by
 obtain⟨g,f,_,z,I,n,st2,f2,i⟩:=h;exact⟨z,I,n,st2,.step f f2,i⟩
def vD(P:qb)(pl:Pol)(g:AV)(ps:Array Tmp)(j body:Code)(Q:qX->St->Prop)(st:St):Prop:=
 ∃(z:Bool) (o:qx) (i:List AV) (rows:List (List AV)) (I:Nat->Mu->Prop) (l:qX->Mu->Prop),
   g = .fn (.func o) [] i/\nL P o i rows I l/\I 0 (st.mu++[.dead]) /\
   (∀ k x C,rows[k]?=some x->I k C->x.length=ps.size/\awp P pl j (asQ (fun st=>awp P pl body (rndQ I l k) st)) ⟨uS st.tm ps.toList x,C⟩) /\
   (∀ C,I rows.length C->fzQ z Q .normal ⟨st.tm,C⟩)/\(∀ e C,l e C->fzQ z Q e ⟨st.tm,C⟩)
theorem cQ{P pl j caps ps g Q st rows}(l:ji P j caps rows)(I i)
  (o:I 0 (st.mu++[.dead])) (p:∀ k mu,I k mu->I k (mu++[.dead])) (r:∀ e mu,i e mu->i e (mu++[.dead]))
  (t:∀ k x mu,rows[k]?=some x->I k mu->x.length=ps.size/\awp P pl g (asQ (fun st=>awp P pl body (rndQ I i k) st)) ⟨uS st.tm ps.toList x,mu⟩)
  (C:∀ mu,I rows.length mu->Q .normal ⟨st.tm,mu⟩) (J:∀ e mu,i e mu->Q e ⟨st.tm,mu⟩):vD P pl (.fn (.func j) [] caps) ps g body Q st:=
 ⟨false,j,caps,rows,I,i,rfl,.inl ⟨l,p,r⟩,o,t,C,J⟩
@[go_sem] theorem setPs_nil(g xs):uS g [] xs=g:=eqS (by cases xs<;>rfl)
@[go_sem] theorem quY(g t ts x xs):uS g (t :: ts) (x :: xs)=uS (fun i=>if i=t then x else g i) ts xs:=eqS rfl
@[go_sem] theorem quZ(n st):asQ n .normal st=n st:=eqS rfl
@[go_sem] theorem qu0:(∀ I g k st,rndQ I g k .normal st=I (k+1) st.mu)/\(∀ I g k st,rndQ I g k .ret st=g .ret st.mu):=by and_intros<;>intros<;>exact eqS rfl
section
variable (P:qb) (pl:Pol) (Q:qX->St->Prop) (st:St)
@[go_sem ↓] theorem awp_skip:(awp P pl .skip Q st=Q .normal st)/\(∀ id,awp P pl (.exit id) Q st=Q (.exit id) st)/\(awp P pl .ret Q st=Q .ret st):=by and_intros<;>intros<;>exact eqS rfl
@[go_sem ↓] theorem qjC(a b):awp P pl (.seq a b) Q st=awp P pl a (seqQ (awp P pl b Q) Q) st:=eqS rfl
@[go_sem ↓] theorem awp_block:(∀ id b,awp P pl (.block id b) Q st=awp P pl b (ue id Q) st)/\(∀ b,awp P pl (.loop b) Q st=qm P pl b Q st):=by and_intros<;>intros<;>exact eqS rfl
@[go_sem ↓] theorem qu1(g ps i body):awp P pl (.rangeFunc g ps i body) Q st=vD P pl (st.ev g) ps i body Q st:=eqS rfl
@[go_sem ↓] theorem qu2(id l):awp P pl (.region id l.toArray false) Q st=awpS P pl false l.toArray l (Q .normal) (panQ Q) st:=
 propext ⟨fun h=>by rcases h with ⟨_,h⟩|⟨e,_⟩;exact h;exact absurd e zSp,fun h => .inl ⟨rfl,h⟩⟩
@[go_sem ↓] theorem qjD(id l):awp P pl (.region id l.toArray true) Q st=qj P pl l (Q .normal) (panQ Q) st:=
 propext ⟨fun h=>by rcases h with ⟨e,_⟩|⟨_,h⟩;exact absurd e zSp;exact h,fun h => .inr ⟨rfl,h⟩⟩
def BrS(b:Bool)(p q:St->Prop)(st:St):Prop:=Br b (p st) (q st)
@[go_sem ↓] theorem BrS_true(p q):BrS true p q st=p st:=by simp[BrS,Br]
@[go_sem ↓] theorem BrS_false(p q):BrS false p q st=q st:=by simp[BrS,Br]
@[go_sem] theorem BrS_true'(p q):BrS true p q st=p st:=by simp[BrS,Br]
@[go_sem] theorem qu3(p q):BrS false p q st=q st:=by simp[BrS,Br]
theorem cZ{b p q st}(g:b=true->p st)(i:b=false->q st):BrS b p q st:=⟨g,i⟩
def XG(v:AV)(p q:St->Prop)(st:St):Prop:=∃ t,v = .sc (.bool t)/\Br t (p st) (q st)
@[go_sem ↓] theorem awp_cond(c a b):awp P pl (.cond c a b) Q st=XG (st.ev c) (awp P pl a Q) (awp P pl b Q) st:=eqS rfl
@[go_sem] theorem qu4(t p q):XG (.sc (.bool t)) p q st=BrS t p q st:=by
 simp[XG,BrS]
@[go_sem ↓] theorem qu5:(∀ n,seqQ n Q .normal st=n st)/\(∀ n i,seqQ n Q (.exit i) st=Q (.exit i) st)/\(∀ n,seqQ n Q .ret st=Q .ret st)/\(∀ n v,seqQ n Q (.pan v) st=Q (.pan v) st)/\(∀ i,ue i Q .normal st=Q .normal st)/\(∀ i j,ue j Q (.exit i) st=if i=j then Q .normal st else Q (.exit i) st)/\(∀ i,ue i Q .ret st=Q .ret st)/\(∀ i v,ue i Q (.pan v) st=Q (.pan v) st)/\(∀ I n,Qn I n Q .normal st=∃ m,m<n/\I m st)/\(∀ I n i,Qn I n Q (.exit i) st=Q (.exit i) st):=by and_intros<;>intros<;>exact eqS rfl
@[go_sem ↓] theorem loopQ_ret:(∀ I n,Qn I n Q .ret st=Q .ret st)/\(∀ v,panQ Q v st=Q (.pan v) st):=by and_intros<;>intros<;>exact eqS rfl
@[go_sem ↓] theorem qvC:(∀ g R,Qo P g R .normal st=OptK (vh P st g) (retK R st.mu))/\(∀ g R,Qo P g R .ret st=OptK (vh P st g) (retK R st.mu))/\(∀ g R v,Qo P g R (.pan v) st=R (.pan v) st.mu):=by and_intros<;>intros<;>exact eqS rfl
@[go_sem ↓] theorem retK_eq(R m r):retK R m r=R (.ret r) m:=eqS rfl
@[go_sem] theorem qvD:(∀ r,vh P st [r]=resV P st r)/\(vh P st []=some (.tup [])):=by and_intros<;>intros<;>exact eqS rfl
@[go_sem] theorem qvF(r s):vh P st [r,s]=(match resV P st r,resV P st s with|some x,some y=>some (.tup [x,y])|_,_=>none):=by
 grind [vh,resL,resV]
@[go_sem] theorem qvG(r s t):vh P st [r,s,t]=(match resV P st r,resV P st s,resV P st t with|some x,some y,some z=>some (.tup [x,y,z])|_,_,_=>none):=by
 simp only[vh,resL]
 grind
@[go_sem] theorem resV_tmp:(∀ t,resV P st (.tmp t)=some (st.tm t))/\(∀ a t,resV P st (.cell a t)=Qf P st.mu t (st.tm a)):=by and_intros<;>intros<;>exact eqS rfl
end
end
section
variable {α:Type}
@[go_sem] theorem OptK_some(v)(k:α->Prop):OptK (some v) k=k v:=by simp[OptK]
theorem pN{o k}(v:α)(h:o=some v)(g:k v):OptK o k:=⟨v,h,g⟩
end
section
variable (P:qb) (pl:Pol) (det:Bool) (ops:Array zK) (Q:St->Prop) (Qp:AV->St->Prop) (st:St)
def Ut(P:qb)(pl:Pol)(det:Bool)(ops:Array zK)(l:List zK)(Q:St->Prop)(Qp:AV->St->Prop)(st:St)(g:Option Tmp):AV->Mu->Prop:=fun v m=>awpS P pl det ops l Q Qp (st.put g v m)
def panS(Qp:AV->St->Prop)(st:St):AV->Mu->Prop:=fun v m=>Qp v ⟨st.tm,m⟩
@[go_sem ↓] theorem contK_eq(l g v m):Ut P pl det ops l Q Qp st g v m=awpS P pl det ops l Q Qp (st.put g v m):=eqS rfl
@[go_sem ↓] theorem panS_eq(v m):panS Qp st v m=Qp v ⟨st.tm,m⟩:=eqS rfl
@[go_sem ↓] theorem awpS_nil:awpS P pl det ops [] Q Qp st=Q st:=eqS rfl
@[go_sem ↓] theorem qvH(g op ty pos after l):awpS P pl det ops (⟨g,op,ty,pos,after,none⟩ :: l) Q Qp st =
  qI P pl det g op st.ev st.mu (Ut P pl det ops l Q Qp st g) (panS Qp st):=by
 simp[awpS,yG,OptK,Br];rfl
def runK(P:qb)(pl:Pol)(det:Bool)(ops:Array zK)(g:Option Tmp)(op:Op)(l:List zK)(Q:St->Prop)(Qp:AV->St->Prop):St->Prop:=fun st=>qI P pl det g op st.ev st.mu (Ut P pl det ops l Q Qp st g) (panS Qp st)
def nP(P:qb)(pl:Pol)(det:Bool)(ops:Array zK)(g:Option Tmp)(l:List zK)(Q:St->Prop)(Qp:AV->St->Prop):St->Prop:=fun st=>awpS P pl det ops l Q Qp (st.put g (.sc qU) st.mu)
@[go_sem ↓] theorem runK_eq:(∀ g op l,runK P pl det ops g op l Q Qp st=qI P pl det g op st.ev st.mu (Ut P pl det ops l Q Qp st g) (panS Qp st))/\(∀ g l,nP P pl det ops g l Q Qp st=awpS P pl det ops l Q Qp (st.put g (.sc qU) st.mu)):=by and_intros<;>intros<;>exact eqS rfl
def brK(p q:St->Prop)(st:St):Bool->Prop:=fun b=>BrS b p q st
@[go_sem ↓] theorem brK_eq(p q b):brK p q st b=BrS b p q st:=eqS rfl
def ZY(d:Option Tmp)(st:St)(g:Bool)(p q:St->Prop):Prop:=OptK (match d with|none=>some false|some d=>Yw (st.tm d) g) (brK p q st)
@[go_sem ↓] theorem qvI(i op ty pos after l j g)(ol:List zK) :
  awpS P pl det ol.toArray (⟨i,op,ty,pos,after,some (j,g)⟩ :: l) Q Qp st=ZY ((ol[j]?).bind (·.dst)) st g (runK P pl det ol.toArray i op l Q Qp) (nP P pl det ol.toArray i l Q Qp):=by
 simp only[awpS,yG,ZY,wt];rfl
@[go_sem] theorem qvJ(d g p q):ZY (some d) st g p q=OptK (Yw (st.tm d) g) (brK p q st):=eqS rfl
@[go_sem] theorem qvL:(∀ b g,Yw (.sc (.bool b)) g=some (b == g))/\(∀ g,Yw (.sc qU) g=some false):=by and_intros<;>intros<;>exact eqS rfl
end
def plc(l:List (Nat×Nat)):Nat->Option (Nat×Nat):=fun i=>l.toArray[i]?
def plA(s:Nat):Nat->Option (Nat×Nat):=fun i=>some (i*s,s)
@[go_sem] theorem plc_zero(p l):plc (p :: l) 0=some p:=by simp[plc]
@[go_sem] theorem plc_succ(p l i):plc (p :: l) (i+1)=plc l i:=by simp[plc]
@[go_sem] theorem plA_eq(s i):plA s i=some (i*s,s):=eqS rfl
section
variable (st:St) (v:AV) (m:Mu)
@[go_sem] theorem nQ(d i:Tmp):(st.put (some d) v m).tm i=if i=d then v else st.tm i:=eqS rfl
@[go_sem] theorem qvN(i:Tmp):(st.put none v m).tm i=st.tm i:=eqS rfl
@[go_sem] theorem qC(d):(st.put d v m).mu=m:=eqS rfl
@[go_sem] theorem st0_tm:(∀(args)(i:Tmp),(st0 args m).tm i=(args[i]?).getD (.sc qU))/\(∀ args,(st0 args m).mu=m):=by and_intros<;>intros<;>exact eqS rfl
@[go_sem] theorem ev_tmp:(∀ t,st.ev (.tmp t)=st.tm t)/\(∀ c,st.ev (.const c)=ofV c)/\(∀ f,st.ev (.func f) = .fn (.func f) [] []):=by and_intros<;>intros<;>exact eqS rfl
@[go_sem] theorem ofV_int:(∀ k n,ofV (.int k n) = .sc (.int k n))/\(∀ b,ofV (.bool b) = .sc (.bool b))/\(∀(s:tP),ofV (.string s) = .sc (.string s))/\(ofV (.slice none 0 0) = .lst true [])/\(ofV .nilIface = .sc .nilIface)/\(ofV .nilFunc = .sc .nilFunc):=by and_intros<;>intros<;>exact eqS rfl
end
section
variable (P:qb) (pl:Pol) (det:Bool) (dst:Option Tmp) (ev:qg->AV) (mu:Mu) (K Kp:AV->Mu->Prop)
def km(K:AV->Mu->Prop)(mu:Mu):AV->Prop:=fun z=>K z mu
def ks(K:AV->Mu->Prop):Mu->Prop:=fun m=>K (.sc qU) m
def kp(K:AV->Mu->Prop):AV×Mu->Prop:=fun z=>K z.1 z.2
def nR(K:AV->Mu->Prop)(mu:Mu):AV->Prop:=fun z=>z.cells.all AV.one=true/\K (.ptr mu.length 0) (mu++[.arr z.cells])
@[go_sem ↓] theorem km_eq(z):km K mu z=K z mu:=eqS rfl
@[go_sem ↓] theorem ks_eq:(∀ m,ks K m=K (.sc qU) m)/\(∀ z m,kp K (z,m)=K z m):=by and_intros<;>intros<;>exact eqS rfl
@[go_sem ↓] theorem allocK_eq(z):nR K mu z=(z.cells.all AV.one=true/\K (.ptr mu.length 0) (mu++[.arr z.cells])):=eqS rfl
@[go_sem ↓] theorem qvS:(∀ x,qI P pl det dst (.move x) ev mu K Kp=K (ev x) mu)/\(∀ x,qI P pl det dst (.assign x) ev mu K Kp=K (ev x) mu):=by and_intros<;>intros<;>exact eqS rfl
def XH(v a b:AV)(k:AV->Prop):Prop:=∃ t,v = .sc (.bool t)/\k (if t then a else b)
@[go_sem ↓] theorem qvU(c a b):qI P pl det dst (.pick c a b) ev mu K Kp=XH (ev c) (ev a) (ev b) (km K mu):=eqS rfl
@[go_sem] theorem qvV(t a b k):XH (.sc (.bool t)) a b k=k (if t then a else b):=by simp[XH]
@[go_sem ↓] theorem qvW:(∀ e,qI P pl det dst (.alloc e) ev mu K Kp=OptK (qB P e) (nR K mu))/\(∀ e x,qI P pl det dst (.box e x) ev mu K Kp=((ev x).cells.all AV.one=true/\(if (dst.any pl.mt.contains)=true then K (.ptr mu.length 0) (mu++[.arr (ev x).cells]) else K (.ip (ev x).cells) mu)))/\(∀(t)(ps:List (Nat×qg)),qI P pl det dst (.build t ps.toArray) ev mu K Kp=(yk P t=true/\OptK (V6 P t (ps.map fun p=>(p.1,ev p.2))) (km K mu)))/\(∀(t n)(ps:List (Nat×qg)),qI P pl det dst (.buildSlice t n ps.toArray) ev mu K Kp=OptK (V7 P t n (ps.map fun p=>(p.1,ev p.2))) (km K mu))/\(∀ t x,qI P pl det dst (.load t x) ev mu K Kp=OptK (Qf P mu t (ev x)) (km K mu))/\(∀ t a x,qI P pl det dst (.store t a x) ev mu K Kp=OptK (VX P mu t (ev a) (ev x)) (ks K))/\(∀ x,qI P pl det dst (.nilCheck x) ev mu K Kp=OptK (Ue (ev x)) (km K mu)):=by and_intros<;>intros<;>exact eqS rfl
def uf(P:qb)(det:Bool)(op:BinOp)(t:qc)(x y:qg)(ev:qg->AV)(mu:Mu)(K:AV->Mu->Prop):Prop:=if wA y=true then vf P det op t (ev x) (km K mu) else OptK (Qi P op t (ev x) (ev y)) (km K mu)
@[go_sem ↓] theorem qv2(op t g x y):qI P pl det dst (.binOp op t x y g) ev mu K Kp=uf P det op t x y ev mu K:=eqS rfl
@[go_sem ↓] theorem BinGo_tmp(op t x u):uf P det op t x (.tmp u) ev mu K=OptK (Qi P op t (ev x) (ev (.tmp u))) (km K mu):=by simp[uf,wA]
@[go_sem ↓] theorem BinGo_int(op t x k n):uf P det op t x (.const (.int k n)) ev mu K=OptK (Qi P op t (ev x) (ev (.const (.int k n)))) (km K mu):=by simp[uf,wA]
@[go_sem ↓] theorem qv3(op t x)(s:tP):uf P det op t x (.const (.string s)) ev mu K=OptK (Qi P op t (ev x) (ev (.const (.string s)))) (km K mu):=by simp[uf,wA]
@[go_sem ↓] theorem qv4(op t x):uf P det op t x (.const .nilIface) ev mu K=OptK (Qi P op t (ev x) (ev (.const .nilIface))) (km K mu):=by simp[uf,wA]
@[go_sem ↓] theorem qv5(op t x):uf P det op t x (.const (.pointer none)) ev mu K=OptK (Qi P op t (ev x) (ev (.const (.pointer none)))) (km K mu):=by simp[uf,wA]
@[go_sem ↓] theorem BinGo_nil(op t x):uf P det op t x (.const (.slice none 0 0)) ev mu K=vf P det op t (ev x) (km K mu):=by simp[uf,wA]
@[go_sem] theorem qv6:(∀ op t f r xs k,vf P det op t (.lst f (r :: xs)) k=((qJ P t).isSome=true/\(op = .eql\/op = .neq)/\k (.sc (.bool (decide (op = .neq))))))/\(∀ op t f k,vf P det op t (.lst f []) k=((qJ P t).isSome=true/\(op = .eql\/op = .neq)/\det=false/\k (.sc (.bool true))/\k (.sc (.bool false)))):=by and_intros<;>intros<;>exact eqS rfl
@[go_sem ↓] theorem qv7:(∀ op t x,qI P pl det dst (.unOp op t x) ev mu K Kp=OptK (aUn op (ev x)) (km K mu))/\(∀ s t x,qI P pl det dst (.convert s t x) ev mu K Kp=((P.underlying s).isSome=true/\OptK (VZ P s t (ev x)) (km K mu)))/\(∀ t x,qI P pl det dst (.makeInterface t x) ev mu K Kp=(ZV P t=true/\K (.ifc t (ev x)) mu))/\(∀ f a b,qI P pl det dst (.makeFunc f a.toArray b.toArray) ev mu K Kp=K (.fn f (evs ev a) (evs ev b)) mu)/\(∀ t l c,qI P pl det dst (.makeSlice t l c) ev mu K Kp=OptK (JH P mu t (ev l) (ev c)) (kp K))/\(∀ t x lo g mx,qI P pl det dst (.slice t x lo g mx) ev mu K Kp=(gS P t (ev x)/\OptK (V5 P t (ev x) (lo.map ev) (g.map ev) (mx.map ev)) (km K mu)))/\(∀ t x f,qI P pl det dst (.fieldAddr t x f) ev mu K Kp=OptK (V0 P t f (ev x)) (km K mu))/\(∀ t x f,qI P pl det dst (.field t x f) ev mu K Kp=OptK (V3 P t f (ev x)) (km K mu))/\(∀ t x i,qI P pl det dst (.indexAddr t x i) ev mu K Kp=OptK (V1 P t (ev x) (ev i)) (km K mu))/\(∀ t x i,qI P pl det dst (.index t x i) ev mu K Kp=OptK (V4 P t (ev x) (ev i)) (km K mu)):=by and_intros<;>intros<;>exact eqS rfl
@[go_sem ↓] theorem qwH:(∀ x i,qI P pl det dst (.extract x i) ev mu K Kp=OptK (Xj i (ev x)) (km K mu))/\(∀ x g t ok,qI P pl det dst (.typeAssert x g t ok) ev mu K Kp=OptK (Uf P t ok (ev x)) (km K mu)):=by and_intros<;>intros<;>exact eqS rfl
@[go_sem ↓] theorem qwJ(t):qI P pl det dst (.makeMap t none) ev mu K Kp=K (.mp mu.length) (mu++[.mp []]):=by
 simp only[qI,true_and]
@[go_sem ↓] theorem qwK:(∀ t m k ok,qI P pl det dst (.lookup t m k ok) ev mu K Kp=OptK (yB P mu t (ev m) (ev k) ok) (km K mu))/\(∀ t m k v,qI P pl det dst (.mapUpdate t m k v) ev mu K Kp=OptK (jV P mu t (ev m) (ev k) (ev v)) (ks K))/\(∀ t m k v,qI P pl det dst (.insert t m k v) ev mu K Kp=OptK (jV P mu t (ev m) (ev k) (ev v)) (ks K))/\(∀ t m,qI P pl det dst (.range t m) ev mu K Kp=OptK (Ud P mu t (ev m)) (kp K)):=by and_intros<;>intros<;>exact eqS rfl
@[go_sem ↓] theorem qwO(i):qI P pl false dst (.next i false) ev mu K Kp=Xh mu (ev i) K:=by
 simp only[qI,true_and]
@[go_sem ↓] theorem qwP:(∀ i,qI P pl det dst (.entry i) ev mu K Kp=OptK (ZU mu (ev i)) (km K mu))/\(∀ x,qI P pl det dst (.panic x) ev mu K Kp=(det=false/\∃ t v,ev x = .ifc t v/\Kp (.ifc t v) mu))/\(∀ f g i,qI P pl det dst (.call ⟨.value f,g.toArray,i⟩) ev mu K Kp=qh P det mu (ev f) (evs ev g) K Kp):=by and_intros<;>intros<;>exact eqS rfl
def nS(P:qb)(mu:Mu)(g:Array qc)(l:List AV)(K:AV->Mu->Prop):Prop:=∃ s x,l=[s,x]/\qz P mu g s x K
@[go_sem ↓] theorem qwS(g i):qI P pl det dst (.call ⟨.builtin .append,g.toArray,i⟩) ev mu K Kp=nS P mu i (evs ev g) K:=eqS rfl
@[go_sem] theorem AppGo_eq(g s x):nS P mu g [s,x] K=qz P mu g s x K:=
 propext ⟨fun⟨_,_,e,h⟩=>by cases e;exact h,fun h=>⟨s,x,rfl,h⟩⟩
@[go_sem ↓] theorem qwT:(∀ g i,qI P pl det dst (.call ⟨.builtin .copy,g.toArray,i⟩) ev mu K Kp=uP P mu .copy i (evs ev g) K)/\(∀ g i,qI P pl det dst (.call ⟨.builtin .delete,g.toArray,i⟩) ev mu K Kp=uP P mu .delete i (evs ev g) K):=by and_intros<;>intros<;>exact eqS rfl
theorem qjE{P mu K t i g et b es k r}(j:mapT P t=some (g,et))(l:mu[b]?=some (.mp es))(o:ju P g k=true)(hf:zw P g k es 0=some r)
  (p:K (.tup []) (mu.set b (.md (delE es r)))):uP P mu .delete #[t,i] [.mp b,k] K:=⟨_,_,.delete j l o hf,p⟩
theorem XI{P mu K t l sz g b off len cells ys x}(i : (qJ P t).map (fun x => x.2.1) = some sz)(o : mu[b]? = some (.arr cells))(p : off + len * sz<=cells.length)
      (r:qE mu x=some ys) (C:zo sz ys) (k:K (.sc (.int .i64 ((min ys.length len:Nat):Int))) (mu.set b (.arr (putCells cells off (ys.take len).flatten)))):uP P mu .copy #[t,l] [.sl b g off len,x] K:=by
  cases j:qJ P t with
  |none=>simp[j]at i
  |some q =>
    obtain⟨e,I,J⟩:=q;simp only[j,zq,qv]at i;subst i;exact⟨_,_,.copy j o p r C,k⟩
@[go_sem ↓] theorem SStep_len:(∀ g i,qI P pl det dst (.call ⟨.builtin .len,g.toArray,i⟩) ev mu K Kp=OptK (uO P mu .len i (evs ev g)) (km K mu))/\(∀ g i,qI P pl det dst (.call ⟨.builtin .cap,g.toArray,i⟩) ev mu K Kp=OptK (uO P mu .cap i (evs ev g)) (km K mu))/\(∀ g i,qI P pl det dst (.call ⟨.builtin .min,g.toArray,i⟩) ev mu K Kp=OptK (uO P mu .min i (evs ev g)) (km K mu))/\(∀ g i,qI P pl det dst (.call ⟨.builtin .max,g.toArray,i⟩) ev mu K Kp=OptK (uO P mu .max i (evs ev g)) (km K mu)):=by and_intros<;>intros<;>exact eqS rfl
@[go_sem] theorem evs_nil:(evs ev []=[])/\(∀ x l,evs ev (x :: l)=ev x :: evs ev l):=by and_intros<;>intros<;>exact eqS rfl
end
@[go_sem] theorem cells_agg:(∀ cs,(AV.agg cs).cells=cs)/\(∀ v,(AV.sc v).cells=[.sc v])/\(∀ f xs,(AV.lst f xs).cells=[.lst f xs])/\(∀ b sz off len,(AV.sl b sz off len).cells=[.sl b sz off len])/\(∀ cs,(AV.ip cs).cells=[.ip cs])/\(∀ b o,(AV.ptr b o).cells=[.ptr b o])/\(∀ b,(AV.mp b).cells=[.mp b])/\(∀ f a b,(AV.fn f a b).cells=[.fn f a b])/\(∀ k n,(AV.sc (.int k n)).one=true)/\(∀ b,(AV.sc (.bool b)).one=true):=by and_intros<;>intros<;>exact eqS rfl
@[go_sem] theorem qwV:(∀(s:tP),(AV.sc (.string s)).one=true)/\((AV.sc .nilFunc).one=true)/\((AV.sc (.pointer none)).one=true)/\((AV.sc (.map none)).one=true)/\(∀ f xs,(AV.lst f xs).one=true)/\(∀ b sz off len,(AV.sl b sz off len).one=true)/\(∀ cs,(AV.ip cs).one=true)/\(∀ b o,(AV.ptr b o).one=true)/\(∀ b,(AV.mp b).one=true)/\(∀ es,(AV.ims es).one=true):=by and_intros<;>intros<;>exact eqS rfl
@[go_sem] theorem one_fn(f a b):(AV.fn f a b).one=true:=eqS rfl
@[go_sem] theorem qwZ(x l):vC 0 x l=x :: l:=eqS (by cases l<;>rfl)
@[go_sem] theorem qw0:(∀ d x y l,vC (d+1) x (y :: l)=y :: vC d x l)/\(∀ d x l,jW 0 d (x :: l)=vC d x l)/\(∀ n d x l,jW (n+1) d (x :: l)=x :: jW n d l):=by and_intros<;>intros<;>exact eqS rfl
end Go.Ev
